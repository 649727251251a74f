/- Walks of functions of the given program: each returns what its Lean function says and leaves the memory that was there as it was. Conditions: those of each theorem. -/
import Derived.Test.YtkkllkkjdbpjpaaSm
import Derived.Test.YtkkllkkjdbpjpaaProg
import Derived.Test.YtkkllkkjdbpjpaaPl
import Derived.Test.YtkkllkkjdbpjpaaPo
import Derived.Test.YtkkllkkjdbpjpaaPd
import Derived.Test.YtkkllkkjdbpjpaaPe
import Derived.Test.YtkkllkkjdbpjpaaPh
import Derived.Test.YtkkllkkjdbpjpaaPm
import Derived.Test.YtkkllkkjdbpjpaaPc
import Derived.Test.YtkkllkkjdbpjpaaPs
import Derived.Test.YtkkllkkjdbpjpaaPt
import Derived.Test.YtkkllkkjdbpjpaaPu
import Derived.Test.YtkkllkkjdbpjpaaPv
import Derived.Test.YtkkllkkjdbpjpaaPw
import Derived.Test.YtkkllkkjdbpjpaaPx
import Derived.Test.YtkkllkkjdbpjpaaPy
import Derived.Test.YtkkllkkjdbpjpaaPz
import Derived.Test.YtkkllkkjdbpjpaaPr
import Derived.Test.YtkkllkkjdbpjpaaPa
import Derived.Test.YtkkllkkjdbpjpaaPn
import Derived.Test.YtkkllkkjdbpjpaaPj
import Derived.Test.YtkkllkkjdbpjpaaPq
import Derived.Test.YtkkllkkjdbpjpaaSp
import Derived.Test.YtkkllkkjdbpjpaaPp
import Derived.Test.YtkkllkkjdbpjpaaSs
import Derived.Test.YtkkllkkjdbpjpaaSr
import Derived.Test.YtkkllkkjdbpjpaaPb
import Derived.Test.YtkkllkkjdbpjpaaSe
import Derived.Test.YtkkllkkjdbpjpaaSf
import Derived.Test.YtkkllkkjdbpjpaaT
import Derived.Test.YtkkllkkjdbpjpaaW11
import Derived.KernelRfl
namespace Go.Proofs.Ytkkllkkjdbpjpaa.W24
open Go.Sx Go.RowKit Go.Proofs.Ytkkllkkjdbpjpaa.T Go.Proofs.Ytkkllkkjdbpjpaa.W11
open Go.Plain
set_option linter.unusedVariables false
set_option maxRecDepth 100000 in
theorem someGraph_c (w w0 : World) (Bd : Nat) (F : List Ent) (g : Nat) (Ar : Option Addr) (nr : Nat) (cr : Nat) (bs : List Nat) (p : Nat) (hAr : Holds (SS w0 Bd F) Ar (cells fY bs)) (eAr : bs.length = nr) (lAr : nr ≤ cr) (hy : nr ≤ 2000 ∧ (∀ x ∈ bs, x < 256) ∧ p ≤ 80000) (hss : SS w0 Bd ((blk g [.slice Ar (nr) (cr), .int .i64 (((p : Nat) : Int))] 100) :: F) w) : Calls Try.prog 31 #[elp (some ⟨g, 0, none⟩) (0)] w (Ret fun rv w' => ∃ N A2 c2 es q, ((es.length ≤ c2 ∧ es.length ≤ 100 ∧ -1 ≤ N ∧ N ≤ 8) ∧ p ≤ q ∧ q ≤ p + 220) ∧ rv = .agg #[.int .i64 (N), .slice A2 (es.length) (c2)] ∧ SS w0 Bd ((row 65 2 A2 (es.length) (c2) (cells fE es)) :: (blk g [.slice Ar (nr) (cr), .int .i64 (((q : Nat) : Int))] 100) :: F) w') := by
  refine fn_enter (args := [elp (some ⟨g, 0, none⟩) (0)]) Try.func31 rfl Try.ntmps31 rfl hss ?_
  refine cw_seq ?_
  refine cw_region ?_
  refine wl_r (or_alloc tI25 rfl) rfl rfl (kt1 rfl (fun g2 => ?_))
  refine wl_nil ?_
  refine ce_then ?_
  refine cw_seq ?_
  refine cw_region ?_
  refine wl_v (ov_move rfl) rfl rfl rfl ?_
  refine wl_r (or_call (fv := []) (vs := [elp (some ⟨g, 0, none⟩) (0)]) (cs := []) en75 rfl rfl (call_o (.cons (.tail .head) (.cons (.head) (.refl))) (fun w hw => goodGraph_c w _ _ _ g Ar nr cr bs p (Holds.keepF hAr ((.drop .refl))) (by first | rfl | assumption | (simp; done) | (simp; omega)) lAr ⟨hy.1, hy.2.1, by omega⟩ hw))) rfl rfl (kt5p rfl (fun m_6 A2_6 c2_6 es_6 q_6 h_6 => ?_))
  have hpl6 := prs_small m_6 h_6.1
  have hel6 := h_6.2.1.2.length_le
  refine wl_r (or_alloc tI25 rfl) rfl rfl (kt1 rfl (fun g3 => ?_))
  refine wl_r0 (or_store_blk (vs := [.int .i64 (((m_6 : Nat) : Int)), .slice A2_6 (es_6.length) (c2_6)]) (cs' := [.int .i64 (((m_6 : Nat) : Int)), .slice A2_6 (es_6.length) (c2_6)]) (.head) tI25 rfl rfl rfl rfl (Nat.le_of_ble_eq_true rfl) rfl) rfl rfl (kn0 ?_)
  refine wl_nil ?_
  refine ce_then ?_
  refine cw_seq ?_
  refine cw_seq ?_
  refine cw_region ?_
  refine wl_v (ov_fieldAddr fI25_1 some_lit rfl) rfl rfl rfl ?_
  refine wl_v (ov_load tI23 (holds_blk (List.Mem.head _)) rfl rfl) rfl rfl rfl ?_
  refine wl_v (ov_len (sliceI_spec sI23) rfl) rfl rfl rfl ?_
  refine wl_if (ov_gtr rfl rfl) rfl rfl rfl (fun c10 => ?_) (fun c10 => ?_)
  ·
    refine wl_nil ?_
    refine ce_then ?_
    refine cw_true rfl ?_
    refine cw_seq ?_
    refine cw_region ?_
    refine wl_v (ov_move rfl) rfl rfl rfl ?_
    refine wl_v (ov_fieldAddr fI25_1 some_lit rfl) rfl rfl rfl ?_
    refine wl_v (ov_load tI23 (holds_blk (List.Mem.head _)) rfl rfl) rfl rfl rfl ?_
    refine wl_v (ov_len (sliceI_spec sI23) rfl) rfl rfl rfl ?_
    refine wl_r (or_call (fv := []) (vs := [elp (some ⟨g, 0, none⟩) (0), .int .i64 (((es_6.length : Nat) : Int))]) (cs := []) en76 rfl rfl (call_o (.cons (.tail (.tail .head)) (.cons (.head) (.cons (.head) (.cons (.head) (.refl))))) (fun w hw => pick_c w _ _ _ ((es_6.length : Nat) : Int) g Ar nr cr bs q_6 (Holds.keepF hAr ((.drop (.drop (.drop .refl))))) (by first | rfl | assumption | (simp; done) | (simp; omega)) lAr ⟨hy.1, hy.2.1, by omega⟩ (by first | assumption | omega | (simp; omega)) hw))) rfl rfl (kt1p rfl (fun v_15 h_15 => ?_))
    refine wl_v (ov_assign rfl) rfl rfl rfl ?_
    refine wl_nil ?_
    refine ce_then ?_
    refine cw_seq ?_
    refine cw_region ?_
    refine wl_v (ov_move rfl) rfl rfl rfl ?_
    refine wl_r (or_call (fv := []) (vs := [elp (some ⟨g, 0, none⟩) (0), .int .i64 (30)]) (cs := []) en76 rfl rfl (call_o (.cons (.head) (.cons (.head) (.cons (.head) (.cons (.head) (.refl))))) (fun w hw => pick_c w _ _ _ 30 g Ar nr cr bs (q_6 + 1) (Holds.keepF hAr ((.drop (.drop (.drop .refl))))) (by first | rfl | assumption | (simp; done) | (simp; omega)) lAr ⟨hy.1, hy.2.1, by omega⟩ (by first | assumption | omega | (simp; omega)) hw))) rfl rfl (kt1p rfl (fun v_17 h_17 => ?_))
    refine wl_nil ?_
    refine ce_then ?_
    refine cw_block ?_
    refine cw_seq ?_
    refine cw_region ?_
    refine wl_if (ov_eql rfl rfl) rfl rfl rfl (fun c19 => ?_) (fun c19 => ?_)
    ·
      refine wl_v (ov_assign rfl) rfl rfl rfl ?_
      refine wl_nil ?_
      refine ce_then ?_
      refine cw_true rfl ?_
      refine cw_draw mixO [14] (.cons (.tail .head) (.cons (.tail .head) (.cons (.tail .head) ((.drop .refl))))) rfl ?_
      refine wg_take (i := 0) rfl (ov_fieldAddr fI25_1 some_lit rfl) rfl rfl rfl (by kernel_rfl) (by kernel_rfl) (by kernel_rfl) (by kernel_rfl) ?_
      refine wg_take (i := 1) rfl (ov_load tI23 (holds_blk (List.Mem.head _)) rfl rfl) rfl rfl rfl (by kernel_rfl) (by kernel_rfl) (by kernel_rfl) (by kernel_rfl) ?_
      refine wg_takep (i := 2) rfl (ov_move rfl) rfl rfl rfl (by kernel_rfl) (by kernel_rfl) (by kernel_rfl) rfl ?_
      refine wg_takep (i := 3) rfl (ov_move rfl) rfl rfl rfl (by kernel_rfl) (by kernel_rfl) (by kernel_rfl) rfl ?_
      refine wg_take (i := 4) rfl (ov_fieldAddr fI25_1 some_lit rfl) rfl rfl rfl (by kernel_rfl) (by kernel_rfl) (by kernel_rfl) (by kernel_rfl) ?_
      refine wg_take (i := 5) rfl (ov_load tI23 (holds_blk (List.Mem.head _)) rfl rfl) rfl rfl rfl (by kernel_rfl) (by kernel_rfl) (by kernel_rfl) (by kernel_rfl) ?_
      refine wg_takep (i := 6) rfl (ov_move rfl) rfl rfl rfl (by kernel_rfl) (by kernel_rfl) (by kernel_rfl) rfl ?_
      refine wg_take (i := 7) rfl (ov_indexg sI23 tI65 rfl rfl (some_holds (q := v_15.toNat * 2) (holds_row (List.Mem.tail _ (List.Mem.head _))) (by rw [cells_length fE_len]; have hlt : v_15.toNat < es_6.length := (by omega); omega)) (by omega) (show v_15.toNat < es_6.length from (by omega))) rfl rfl rfl (by kernel_rfl) (by kernel_rfl) (by kernel_rfl) (by kernel_rfl) ?_
      refine wg_take (i := 8) rfl (ov_fieldAddr fI65_1 (some_holds (q := v_15.toNat * 2) (holds_row (List.Mem.tail _ (List.Mem.head _))) (by rw [cells_length fE_len]; have hlt : v_15.toNat < es_6.length := (by omega); omega)) rfl) rfl rfl rfl (by kernel_rfl) (by kernel_rfl) (by kernel_rfl) (by kernel_rfl) ?_
      refine wg_take (i := 9) rfl (ov_load tI3 (holds_row (List.Mem.tail _ (List.Mem.head _))) rfl (get_fE1 (show v_15.toNat < es_6.length from (by omega)))) rfl rfl rfl (by kernel_rfl) (by kernel_rfl) (by kernel_rfl) (by kernel_rfl) ?_
      refine wg_one (i := 10) (by kernel_rfl) ?_
      refine go_r rfl rfl rfl rfl (or_buildSlice (e := 3) (size := 1) (is := [0, 1, 2]) (vs := [.int .i64 (-1), .int .i64 (7), .int .i64 ((es_6.getD v_15.toNat (0, 0)).2)]) (cs := cells fI ([-1, 7, (es_6.getD v_15.toNat (0, 0)).2])) rfl rfl rfl (by decide) (fun _ => by kernel_rfl)) (kt1 rfl (fun g30 => ?_))
      refine gk (.cons (.tail (.tail .head)) (.cons (.tail (.tail .head)) (.cons (.tail (.tail .head)) ((.drop (.drop .refl)))))) ?_
      refine wg_one (i := 11) (by kernel_rfl) ?_
      refine go_r rfl rfl rfl rfl (or_call (fv := []) (vs := [elp (some ⟨g, 0, none⟩) (0), .slice (some ⟨g30, 0, none⟩) (3) (3)]) (cs := []) en77 rfl rfl (call_o (.cons (.tail .head) (.cons (.head) (.cons (.head) (.cons (.head) (.cons (.head) (.refl)))))) (fun w hw => one_c w _ _ _ (some ⟨g30, 0, none⟩) 3 3 ([-1, 7, (es_6.getD v_15.toNat (0, 0)).2]) g Ar nr cr bs ((q_6 + 1) + 1) (holds_row (List.Mem.head _)) (by first | rfl | assumption | (simp; done) | (simp; omega)) (Nat.le_refl _) (Holds.keepF hAr ((.drop (.drop (.drop (.drop .refl)))))) (by first | rfl | assumption | (simp; done) | (simp; omega)) lAr ⟨hy.1, hy.2.1, by omega⟩ (by first | assumption | omega | (simp; omega)) hw))) (kt1p rfl (fun v_31 h_31 => ?_))
      refine gk (.cons (.tail (.tail .head)) (.cons (.tail (.tail .head)) (.cons (.tail (.tail .head)) ((.drop (.drop .refl)))))) ?_
      have h31 : -1 ≤ v_31 ∨ v_31 < -1 := by omega
      refine stg_some (some_holds (q := v_15.toNat * 2) (holds_row (List.Mem.tail _ (List.Mem.head _))) (by rw [cells_length fE_len]; have hlt : v_15.toNat < es_6.length := (by omega); omega)) (fun hso32 => ?_)
      refine wg_takep (i := 12) rfl (ov_indexg sI23 tI65 rfl rfl (fun _ _ => hso32) (by omega) (show v_15.toNat < es_6.length from (by omega))) rfl rfl rfl (by kernel_rfl) (by kernel_rfl) (by kernel_rfl) rfl ?_
      refine wg_take (i := 13) rfl (ov_fieldAddr fI65_0 (some_holds (q := v_15.toNat * 2) (holds_row (List.Mem.tail _ (List.Mem.head _))) (by rw [cells_length fE_len]; have hlt : v_15.toNat < es_6.length := (by omega); omega)) rfl) rfl rfl rfl (by kernel_rfl) (by kernel_rfl) (by kernel_rfl) (by kernel_rfl) ?_
      refine wg_one (i := 14) (by kernel_rfl) ?_
      refine go_late0 rfl rfl rfl rfl (or_store_row (vs := [.int .i64 (v_31)]) (cs' := cells fE (es_6.set v_15.toNat (v_31, (es_6.getD v_15.toNat (0, 0)).2))) (.tail (.tail (.tail .head))) tI3 rfl rfl rfl rfl (by rw [cells_length fE_len]; have hlt := (show v_15.toNat < es_6.length from (by omega)); simp only [List.length_cons, List.length_nil]; omega) (by simp) (splice_fE0 (show v_15.toNat < es_6.length from (by omega)) _)) (kn0 ?_)
      refine wa_done (by kernel_rfl) ?_
      refine ce_block ?_
      refine ce_then ?_
      refine cw_seq ?_
      refine cw_region ?_
      refine wl_v (ov_loadAgg (vs := [.int .i64 (((m_6 : Nat) : Int)), .slice A2_6 (es_6.length) (c2_6)]) tI25 (holds_blk (List.Mem.tail _ (List.Mem.tail _ (List.Mem.tail _ (List.Mem.head _))))) rfl some_lit rfl rfl) rfl rfl rfl ?_
      refine wl_r0 (or_store_blk (vs := [.int .i64 (((m_6 : Nat) : Int)), .slice A2_6 (es_6.length) (c2_6)]) (cs' := [.int .i64 (((m_6 : Nat) : Int)), .slice A2_6 (es_6.length) (c2_6)]) (.tail (.tail (.tail (.tail .head)))) tI25 rfl rfl rfl rfl (Nat.le_of_ble_eq_true rfl) rfl) rfl rfl (kn0 ?_)
      refine wl_nil ?_
      refine ce_then ?_
      refine cw_ret ?_
      refine ce_results (v := .agg #[.int .i64 (((m_6 : Nat) : Int)), .slice A2_6 (es_6.length) (c2_6)]) (res1 rfl (rv_c rfl tI25 rfl (List.Mem.head _))) (fun w' hw => ?_)
      exact ⟨((m_6 : Nat) : Int), A2_6, c2_6, es_6.set v_15.toNat (v_31, (es_6.getD v_15.toNat (0, 0)).2), ((q_6 + 1) + 1) + 1, (by first | omega | (simp only [List.length_append, List.length_set, List.length_singleton]; omega)), (by first | rfl | simp only [List.length_append, List.length_set, List.length_singleton]), ((.consE (show row 65 2 A2_6 (es_6.length) (c2_6) (cells fE (es_6.set v_15.toNat (v_31, (es_6.getD v_15.toNat (0, 0)).2))) = row 65 2 A2_6 ((es_6.set v_15.toNat (v_31, (es_6.getD v_15.toNat (0, 0)).2)).length) (c2_6) (cells fE (es_6.set v_15.toNat (v_31, (es_6.getD v_15.toNat (0, 0)).2))) by first | rfl | simp only [List.length_append, List.length_set, List.length_singleton]) (.tail .head) (.cons (.tail .head) ((.drop (.drop (.drop .refl))))) : Keep _ _).ss hw)⟩
    ·
      refine wl_v (ov_assign rfl) rfl rfl rfl ?_
      refine wl_nil ?_
      refine ce_then ?_
      refine cw_false rfl ?_
      refine cw_seq ?_
      refine cw_region ?_
      refine wl_if (ov_eql rfl rfl) rfl rfl rfl (fun c35 => ?_) (fun c35 => ?_)
      ·
        refine wl_v (ov_assign rfl) rfl rfl rfl ?_
        refine wl_nil ?_
        refine ce_then ?_
        refine cw_true rfl ?_
        refine cw_draw mixO [8, 9, 10] (.cons (.head) (.cons (.head) (.cons (.head) (.cons (.head) (.refl))))) rfl ?_
        refine wg_takep (i := 0) rfl (ov_fieldAddr fI25_1 some_lit rfl) rfl rfl rfl (by kernel_rfl) (by kernel_rfl) (by kernel_rfl) rfl ?_
        refine wg_take (i := 1) rfl (ov_load tI23 (holds_blk (List.Mem.tail _ (List.Mem.head _))) rfl rfl) rfl rfl rfl (by kernel_rfl) (by kernel_rfl) (by kernel_rfl) (by kernel_rfl) ?_
        refine wg_takep (i := 2) rfl (ov_fieldAddr fI25_1 some_lit rfl) rfl rfl rfl (by kernel_rfl) (by kernel_rfl) (by kernel_rfl) rfl ?_
        refine wg_takec (i := 3) [5, 6, 7, 8, 9, 10] rfl (ov_load tI23 (holds_blk (List.Mem.tail _ (List.Mem.head _))) rfl rfl) rfl rfl rfl (by kernel_rfl) (by kernel_rfl) (by kernel_rfl) (by kernel_rfl) ?_
        refine wg_takep (i := 4) rfl (ov_move rfl) rfl rfl rfl (by kernel_rfl) (by kernel_rfl) (by kernel_rfl) rfl ?_
        refine stg_some (some_holds (q := v_15.toNat * 2) (holds_row (List.Mem.tail _ (List.Mem.tail _ (List.Mem.head _)))) (by rw [cells_length fE_len]; have hlt : v_15.toNat < es_6.length := (by omega); omega)) (fun hso41 => ?_)
        refine wg_takep (i := 5) rfl (ov_indexg sI23 tI65 rfl rfl (fun _ _ => hso41) (by omega) (show v_15.toNat < es_6.length from (by omega))) rfl rfl rfl (by kernel_rfl) (by kernel_rfl) (by kernel_rfl) rfl ?_
        refine wg_takec (i := 6) [7, 8, 9, 10] rfl (ov_loadAgg (vs := [.int .i64 ((es_6.getD v_15.toNat (0, 0)).1), .int .i64 ((es_6.getD v_15.toNat (0, 0)).2)]) tI65 (holds_row (List.Mem.tail _ (List.Mem.tail _ (List.Mem.head _)))) rfl (some_holds (q := v_15.toNat * 2) (holds_row (List.Mem.tail _ (List.Mem.tail _ (List.Mem.head _)))) (by rw [cells_length fE_len]; have hlt : v_15.toNat < es_6.length := (by omega); omega)) (cells_elem fE_len (0, 0) (show v_15.toNat < es_6.length from (by omega))) rfl) rfl rfl rfl (by kernel_rfl) (by kernel_rfl) (by kernel_rfl) (by kernel_rfl) ?_
        refine wg_one (i := 7) (by kernel_rfl) ?_
        refine go_r rfl rfl rfl rfl (or_buildSlice (e := 65) (size := 2) (is := [0]) (vs := [.agg #[.int .i64 ((es_6.getD v_15.toNat (0, 0)).1), .int .i64 ((es_6.getD v_15.toNat (0, 0)).2)]]) (cs := cells fE ([((es_6.getD v_15.toNat (0, 0)).1, (es_6.getD v_15.toNat (0, 0)).2)])) rfl rfl rfl (by decide) (fun _ => by kernel_rfl)) (kt1 rfl (fun g43 => ?_))
        refine gk (.cons (.tail .head) (.cons (.tail .head) (.cons (.tail .head) (.cons (.tail .head) ((.drop .refl)))))) ?_
        refine wg_one (i := 8) (by kernel_rfl) ?_
        refine go_late rfl rfl rfl rfl (or_append (c2 := 1) sI23 tI65 rfl (by decide) rfl rfl (.tail (.tail (.tail .head))) (holds_row (List.Mem.head _)) (by rw [cells_length fE_len]; try simp) (one_cells fE_one _) cells_append (by omega) (by omega)) (kt2p rfl (fun A44 c44 h44 => ?_))
        refine wa_r (i := 9) (by kernel_rfl) rfl rfl rfl (OpV.opR (ov_fieldAddr fI25_1 some_lit rfl)) (kt0 rfl ?_)
        refine wa_r0 (i := 10) (by kernel_rfl) rfl rfl rfl (or_store_blk (vs := [.slice A44 (es_6.length + 1) (c44)]) (cs' := [.int .i64 (((m_6 : Nat) : Int)), .slice A44 (es_6.length + 1) (c44)]) (.tail (.tail (.tail .head))) tI23 rfl rfl rfl rfl (Nat.le_of_ble_eq_true rfl) rfl) (kn0 ?_)
        refine wa_done (by kernel_rfl) ?_
        refine ce_block ?_
        refine ce_then ?_
        refine cw_seq ?_
        refine cw_region ?_
        refine wl_v (ov_loadAgg (vs := [.int .i64 (((m_6 : Nat) : Int)), .slice A44 (es_6.length + 1) (c44)]) tI25 (holds_blk (List.Mem.head _)) rfl some_lit rfl rfl) rfl rfl rfl ?_
        refine wl_r0 (or_store_blk (vs := [.int .i64 (((m_6 : Nat) : Int)), .slice A44 (es_6.length + 1) (c44)]) (cs' := [.int .i64 (((m_6 : Nat) : Int)), .slice A44 (es_6.length + 1) (c44)]) (.tail (.tail (.tail (.tail .head)))) tI25 rfl rfl rfl rfl (Nat.le_of_ble_eq_true rfl) rfl) rfl rfl (kn0 ?_)
        refine wl_nil ?_
        refine ce_then ?_
        refine cw_ret ?_
        refine ce_results (v := .agg #[.int .i64 (((m_6 : Nat) : Int)), .slice A44 (es_6.length + 1) (c44)]) (res1 rfl (rv_c rfl tI25 rfl (List.Mem.head _))) (fun w' hw => ?_)
        exact ⟨((m_6 : Nat) : Int), A44, c44, es_6 ++ ([((es_6.getD v_15.toNat (0, 0)).1, (es_6.getD v_15.toNat (0, 0)).2)]), (q_6 + 1) + 1, (by first | omega | (simp only [List.length_append, List.length_set, List.length_singleton]; omega)), (by first | rfl | simp only [List.length_append, List.length_set, List.length_singleton]), ((.consE (show row 65 2 A44 (es_6.length + 1) (c44) (cells fE (es_6 ++ ([((es_6.getD v_15.toNat (0, 0)).1, (es_6.getD v_15.toNat (0, 0)).2)]))) = row 65 2 A44 ((es_6 ++ ([((es_6.getD v_15.toNat (0, 0)).1, (es_6.getD v_15.toNat (0, 0)).2)])).length) (c44) (cells fE (es_6 ++ ([((es_6.getD v_15.toNat (0, 0)).1, (es_6.getD v_15.toNat (0, 0)).2)]))) by first | rfl | simp only [List.length_append, List.length_set, List.length_singleton]) (.tail (.tail .head)) (.cons (.tail (.tail (.tail .head))) ((.drop (.drop (.drop .refl))))) : Keep _ _).ss hw)⟩
      ·
        refine wl_v (ov_assign rfl) rfl rfl rfl ?_
        refine wl_nil ?_
        refine ce_then ?_
        refine cw_false rfl ?_
        refine cw_seq ?_
        refine cw_region ?_
        refine wl_if (ov_eql rfl rfl) rfl rfl rfl (fun c47 => ?_) (fun c47 => ?_)
        ·
          refine wl_v (ov_assign rfl) rfl rfl rfl ?_
          refine wl_nil ?_
          refine ce_then ?_
          refine cw_true rfl ?_
          refine cw_region ?_
          refine wl_v (ov_move rfl) rfl rfl rfl ?_
          refine wl_r (or_buildSlice (e := 3) (size := 1) (is := [0, 1, 2]) (vs := [.int .i64 (-1), .int .i64 (8), .int .i64 (2)]) (cs := cells fI ([-1, 8, 2])) rfl rfl rfl (by decide) (fun _ => by kernel_rfl)) rfl rfl (kt1 rfl (fun g49 => ?_))
          refine wl_r (or_call (fv := []) (vs := [elp (some ⟨g, 0, none⟩) (0), .slice (some ⟨g49, 0, none⟩) (3) (3)]) (cs := []) en77 rfl rfl (call_o (.cons (.tail .head) (.cons (.head) (.cons (.head) (.cons (.head) (.cons (.head) (.refl)))))) (fun w hw => one_c w _ _ _ (some ⟨g49, 0, none⟩) 3 3 ([-1, 8, 2]) g Ar nr cr bs ((q_6 + 1) + 1) (holds_row (List.Mem.head _)) (by first | rfl | assumption | (simp; done) | (simp; omega)) (Nat.le_refl _) (Holds.keepF hAr ((.drop (.drop (.drop (.drop .refl)))))) (by first | rfl | assumption | (simp; done) | (simp; omega)) lAr ⟨hy.1, hy.2.1, by omega⟩ (by first | assumption | omega | (simp; omega)) hw))) rfl rfl (kt1p rfl (fun v_50 h_50 => ?_))
          have h50 : -1 ≤ v_50 ∧ v_50 ≤ 8 := (by simp at h_50; omega)
          refine wl_v (ov_fieldAddr fI25_0 some_lit rfl) rfl rfl rfl ?_
          refine wl_r0 (or_store_blk (vs := [.int .i64 (v_50)]) (cs' := [.int .i64 (v_50), .slice A2_6 (es_6.length) (c2_6)]) (.tail (.tail .head)) tI3 rfl rfl rfl rfl (Nat.le_of_ble_eq_true rfl) rfl) rfl rfl (kn0 ?_)
          refine wl_nil ?_
          refine ce_block ?_
          refine ce_then ?_
          refine cw_seq ?_
          refine cw_region ?_
          refine wl_v (ov_loadAgg (vs := [.int .i64 (v_50), .slice A2_6 (es_6.length) (c2_6)]) tI25 (holds_blk (List.Mem.head _)) rfl some_lit rfl rfl) rfl rfl rfl ?_
          refine wl_r0 (or_store_blk (vs := [.int .i64 (v_50), .slice A2_6 (es_6.length) (c2_6)]) (cs' := [.int .i64 (v_50), .slice A2_6 (es_6.length) (c2_6)]) (.tail (.tail (.tail (.tail .head)))) tI25 rfl rfl rfl rfl (Nat.le_of_ble_eq_true rfl) rfl) rfl rfl (kn0 ?_)
          refine wl_nil ?_
          refine ce_then ?_
          refine cw_ret ?_
          refine ce_results (v := .agg #[.int .i64 (v_50), .slice A2_6 (es_6.length) (c2_6)]) (res1 rfl (rv_c rfl tI25 rfl (List.Mem.head _))) (fun w' hw => ?_)
          exact ⟨v_50, A2_6, c2_6, es_6, ((q_6 + 1) + 1) + 1, (by first | omega | (simp only [List.length_append, List.length_set, List.length_singleton]; omega)), (by first | rfl | simp only [List.length_append, List.length_set, List.length_singleton]), ((.consE (show row 65 2 A2_6 (es_6.length) (c2_6) (cells fE es_6) = row 65 2 A2_6 ((es_6).length) (c2_6) (cells fE es_6) by first | rfl | simp only [List.length_append, List.length_set, List.length_singleton]) (.tail (.tail (.tail (.tail .head)))) (.cons (.tail (.tail .head)) ((.drop (.drop (.drop .refl))))) : Keep _ _).ss hw)⟩
        ·
          refine wl_v (ov_assign rfl) rfl rfl rfl ?_
          refine wl_nil ?_
          refine ce_then ?_
          refine cw_false rfl ?_
          refine cw_skip ?_
          refine ce_block ?_
          refine ce_then ?_
          refine cw_seq ?_
          refine cw_region ?_
          refine wl_v (ov_loadAgg (vs := [.int .i64 (((m_6 : Nat) : Int)), .slice A2_6 (es_6.length) (c2_6)]) tI25 (holds_blk (List.Mem.tail _ (List.Mem.head _))) rfl some_lit rfl rfl) rfl rfl rfl ?_
          refine wl_r0 (or_store_blk (vs := [.int .i64 (((m_6 : Nat) : Int)), .slice A2_6 (es_6.length) (c2_6)]) (cs' := [.int .i64 (((m_6 : Nat) : Int)), .slice A2_6 (es_6.length) (c2_6)]) (.tail (.tail (.tail .head))) tI25 rfl rfl rfl rfl (Nat.le_of_ble_eq_true rfl) rfl) rfl rfl (kn0 ?_)
          refine wl_nil ?_
          refine ce_then ?_
          refine cw_ret ?_
          refine ce_results (v := .agg #[.int .i64 (((m_6 : Nat) : Int)), .slice A2_6 (es_6.length) (c2_6)]) (res1 rfl (rv_c rfl tI25 rfl (List.Mem.head _))) (fun w' hw => ?_)
          exact ⟨((m_6 : Nat) : Int), A2_6, c2_6, es_6, (q_6 + 1) + 1, (by first | omega | (simp only [List.length_append, List.length_set, List.length_singleton]; omega)), (by first | rfl | simp only [List.length_append, List.length_set, List.length_singleton]), ((.consE (show row 65 2 A2_6 (es_6.length) (c2_6) (cells fE es_6) = row 65 2 A2_6 ((es_6).length) (c2_6) (cells fE es_6) by first | rfl | simp only [List.length_append, List.length_set, List.length_singleton]) (.tail (.tail (.tail .head))) (.cons (.tail .head) ((.drop (.drop .refl)))) : Keep _ _).ss hw)⟩
  ·
    refine wl_nil ?_
    refine ce_then ?_
    refine cw_false rfl ?_
    refine cw_skip ?_
    refine ce_then ?_
    refine cw_seq ?_
    refine cw_region ?_
    refine wl_v (ov_loadAgg (vs := [.int .i64 (((m_6 : Nat) : Int)), .slice A2_6 (es_6.length) (c2_6)]) tI25 (holds_blk (List.Mem.head _)) rfl some_lit rfl rfl) rfl rfl rfl ?_
    refine wl_r0 (or_store_blk (vs := [.int .i64 (((m_6 : Nat) : Int)), .slice A2_6 (es_6.length) (c2_6)]) (cs' := [.int .i64 (((m_6 : Nat) : Int)), .slice A2_6 (es_6.length) (c2_6)]) (.tail (.tail (.tail .head))) tI25 rfl rfl rfl rfl (Nat.le_of_ble_eq_true rfl) rfl) rfl rfl (kn0 ?_)
    refine wl_nil ?_
    refine ce_then ?_
    refine cw_ret ?_
    refine ce_results (v := .agg #[.int .i64 (((m_6 : Nat) : Int)), .slice A2_6 (es_6.length) (c2_6)]) (res1 rfl (rv_c rfl tI25 rfl (List.Mem.head _))) (fun w' hw => ?_)
    exact ⟨((m_6 : Nat) : Int), A2_6, c2_6, es_6, q_6, (by first | omega | (simp only [List.length_append, List.length_set, List.length_singleton]; omega)), (by first | rfl | simp only [List.length_append, List.length_set, List.length_singleton]), ((.consE (show row 65 2 A2_6 (es_6.length) (c2_6) (cells fE es_6) = row 65 2 A2_6 ((es_6).length) (c2_6) (cells fE es_6) by first | rfl | simp only [List.length_append, List.length_set, List.length_singleton]) (.tail (.tail .head)) (.cons (.tail (.tail .head)) ((.drop (.drop .refl)))) : Keep _ _).ss hw)⟩
end Go.Proofs.Ytkkllkkjdbpjpaa.W24
