/- Walks of functions of the given program: each returns what its Lean function says and leaves the memory that was there as it was. Conditions: those of each theorem. -/
import Derived.Test.YtfjgfocjogfodaaSm
import Derived.Test.YtfjgfocjogfodaaProg
import Derived.Test.YtfjgfocjogfodaaPl
import Derived.Test.YtfjgfocjogfodaaPo
import Derived.Test.YtfjgfocjogfodaaPd
import Derived.Test.YtfjgfocjogfodaaPe
import Derived.Test.YtfjgfocjogfodaaPh
import Derived.Test.YtfjgfocjogfodaaPm
import Derived.Test.YtfjgfocjogfodaaPc
import Derived.Test.YtfjgfocjogfodaaPs
import Derived.Test.YtfjgfocjogfodaaPt
import Derived.Test.YtfjgfocjogfodaaPu
import Derived.Test.YtfjgfocjogfodaaPv
import Derived.Test.YtfjgfocjogfodaaPw
import Derived.Test.YtfjgfocjogfodaaT
import Derived.Test.YtfjgfocjogfodaaW5
import Derived.Test.YtfjgfocjogfodaaW11
import Derived.Test.YtfjgfocjogfodaaW15
import Derived.Test.YtfjgfocjogfodaaW22
import Derived.Test.YtfjgfocjogfodaaW24
import Derived.KernelRfl
namespace Go.Proofs.Ytfjgfocjogfodaa.W37
open Go.Sx Go.RowKit Go.Proofs.Ytfjgfocjogfodaa.T Go.Proofs.Ytfjgfocjogfodaa.W5 Go.Proofs.Ytfjgfocjogfodaa.W11 Go.Proofs.Ytfjgfocjogfodaa.W15 Go.Proofs.Ytfjgfocjogfodaa.W22 Go.Proofs.Ytfjgfocjogfodaa.W24
open Go.Plain
set_option linter.unusedVariables false
set_option maxRecDepth 100000 in
theorem smallGraph_c (w w0 : World) (Bd : Nat) (F : List Ent) (g : Nat) (Ar : Option Addr) (nr : Nat) (cr : Nat) (bs : List Nat) (p : Nat) (hAr : Holds (SS w0 Bd F) Ar (cells fY bs)) (eAr : bs.length = nr) (lAr : nr ≤ cr) (hy : nr ≤ 2000 ∧ (∀ x ∈ bs, x < 256) ∧ p ≤ 85000) (hss : SS w0 Bd ((blk g [.slice Ar (nr) (cr), .int .i64 (((p : Nat) : Int))] 99) :: F) w) : Calls Try.prog 79 #[elp (some ⟨g, 0, none⟩) (0)] w (Ret fun rv w' => ∃ m A2 c2 es q, (m ≤ 5 ∧ (es.length ≤ c2 ∧ es.Sublist (prs m)) ∧ p ≤ q ∧ q ≤ p + 210) ∧ rv = .agg #[.int .i64 (((m : Nat) : Int)), .slice A2 (es.length) (c2)] ∧ SS w0 Bd ((row 43 2 A2 (es.length) (c2) (cells fE es)) :: (blk g [.slice Ar (nr) (cr), .int .i64 (((q : Nat) : Int))] 99) :: F) w') := by
  refine fn_enter (args := [elp (some ⟨g, 0, none⟩) (0)]) Try.func79 rfl Try.ntmps79 rfl hss ?_
  refine cw_seq ?_
  refine cw_region ?_
  refine wl_r (or_alloc tI25 rfl) rfl rfl (kt1 rfl (fun g2 => ?_))
  refine wl_nil ?_
  refine ce_then ?_
  refine cw_seq ?_
  refine cw_region ?_
  refine wl_v (ov_move rfl) rfl rfl rfl ?_
  refine wl_v (ov_move rfl) rfl rfl rfl ?_
  refine wl_r (or_buildSlice (e := 3) (size := 1) (is := [0, 1, 2, 3, 4, 5]) (vs := [.int .i64 (5), .int .i64 (4), .int .i64 (5), .int .i64 (3), .int .i64 (2), .int .i64 (1)]) (cs := cells fI ([5, 4, 5, 3, 2, 1])) rfl rfl rfl (by decide) (fun _ => by kernel_rfl)) rfl rfl (kt1 rfl (fun g5 => ?_))
  refine wl_r (or_call (fv := []) (vs := [elp (some ⟨g, 0, none⟩) (0), .slice (some ⟨g5, 0, none⟩) (6) (6)]) (cs := []) en51 rfl rfl (call_o (.cons (.tail (.tail .head)) (.cons (.head) (.cons (.head) (.refl)))) (fun w hw => one_c w _ _ _ (some ⟨g5, 0, none⟩) 6 6 ([5, 4, 5, 3, 2, 1]) g Ar nr cr bs p (holds_row (List.Mem.head _)) (by first | rfl | assumption | (simp; done) | (simp; omega)) (Nat.le_refl _) (Holds.keepF hAr ((.drop (.drop .refl)))) (by first | rfl | assumption | (simp; done) | (simp; omega)) lAr ⟨hy.1, hy.2.1, by omega⟩ (by first | assumption | omega | (simp; omega)) hw))) rfl rfl (kt1p rfl (fun v_6 h_6 => ?_))
  have h6 : 0 ≤ v_6 ∧ v_6 ≤ 5 := (by simp at h_6; omega)
  obtain ⟨m, rfl⟩ := Int.eq_ofNat_of_zero_le (show 0 ≤ v_6 from h6.1)
  refine wl_r (or_call (fv := []) (vs := [elp (some ⟨g, 0, none⟩) (0), .int .i64 (((m : Nat) : Int))]) (cs := []) en125 rfl rfl (call_o (.cons (.head) (.cons (.head) (.cons (.head) (.refl)))) (fun w hw => aGraph_c w _ _ _ m g Ar nr cr bs (p + 1) (Holds.keepF hAr ((.drop (.drop .refl)))) (by first | rfl | assumption | (simp; done) | (simp; omega)) lAr ⟨hy.1, hy.2.1, by omega⟩ (by first | assumption | omega | (simp; omega)) hw))) rfl rfl (kt4p rfl (fun A2_7 c2_7 es_7 q_7 h_7 => ?_))
  refine wl_r0 (or_store_blk (vs := [.int .i64 (((m : Nat) : Int)), .slice A2_7 (es_7.length) (c2_7)]) (cs' := [.int .i64 (((m : Nat) : Int)), .slice A2_7 (es_7.length) (c2_7)]) (.tail (.tail (.tail .head))) tI25 rfl rfl rfl rfl (Nat.le_of_ble_eq_true rfl) rfl) rfl rfl (kn0 ?_)
  refine wl_nil ?_
  refine ce_then ?_
  refine cw_ret ?_
  refine ce_results (v := .agg #[.int .i64 (((m : Nat) : Int)), .slice A2_7 (es_7.length) (c2_7)]) (res1 rfl (rv_c rfl tI25 rfl (List.Mem.head _))) (fun w' hw => ?_)
  exact ⟨m, A2_7, c2_7, es_7, q_7, ⟨by omega, h_7.1, by omega, by omega⟩, rfl, ((.cons (.tail .head) (.cons (.tail .head) ((.drop (.drop .refl)))) : Keep _ _).ss hw)⟩
set_option maxRecDepth 100000 in
theorem DrawPack_c (w : World) (Ar : Option Addr) (nr : Nat) (cr : Nat) (bs : List (Nat)) (hAr : At w Ar (cells fY bs)) (eAr : bs.length = nr) (lAr : nr ≤ cr) (hb : ∀ x ∈ bs, x < 256) : Calls Try.prog 35 #[.slice Ar (nr) (cr)] w (Ret fun rv w' => ∃ A1 c1 xs A2 c2 ys, ((xs.length ≤ c1 ∧ xs.length ≤ 9 ∧ Sm xs) ∧ ys.length ≤ c2 ∧ ys.length ≤ 9 ∧ Sm ys) ∧ rv = .tuple #[.slice A1 (xs.length) (c1), .slice A2 (ys.length) (c2)] ∧ New w w' [row 3 1 A1 (xs.length) (c1) (cells fI xs), row 3 1 A2 (ys.length) (c2) (cells fI ys)]) := by
  have oAr := hAr.atB
  subst eAr
  refine fn_enter (args := [.slice Ar (bs.length) (cr)]) Try.func35 rfl Try.ntmps35 rfl (SS.start w) ?_
  refine cw_seq ?_
  refine cw_region ?_
  refine wl_v (ov_assign rfl) rfl rfl rfl ?_
  refine wl_v (ov_assign rfl) rfl rfl rfl ?_
  refine wl_nil ?_
  refine ce_then ?_
  refine cw_seq ?_
  refine cw_region ?_
  refine wl_v (ov_move rfl) rfl rfl rfl ?_
  refine wl_r (or_call (fv := []) (vs := [.slice Ar (bs.length) (cr)]) (cs := []) en48 rfl rfl (call_x2 (fun w hw => newReader_c w Ar bs.length cr bs ((holds_old oAr) w hw) rfl lAr))) rfl rfl (kt2p rfl (fun g_9 n2_9 h_9 => ?_))
  refine wl_v (ov_assign rfl) rfl rfl rfl ?_
  refine wl_nil ?_
  refine ce_then ?_
  refine cw_seq ?_
  refine cw_region ?_
  refine wl_v (ov_move rfl) rfl rfl rfl ?_
  refine wl_r (or_call (fv := []) (vs := [elp (some ⟨g_9, 0, none⟩) (0)]) (cs := []) en79 rfl rfl (call_o (.cons (.head) (.nil)) (fun w hw => smallGraph_c w _ _ _ g_9 Ar n2_9 cr (bs.take n2_9) 0 (holds_takeC (k := n2_9) fY_len (holds_old oAr)) (by rw [List.length_take]; omega) (by omega) ⟨by omega, fun x hx => hb x (List.mem_of_mem_take hx), by omega⟩ hw))) rfl rfl (kt5p rfl (fun m_11 A2_11 c2_11 es_11 q_11 h_11 => ?_))
  have hg11 := gr_of_sublist h_11.2.1.2
  have hl11 := hg11.len (by omega)
  have hsm11 := degs_sm hg11.inr (by omega)
  have hdl11 := degs_length m_11 es_11
  refine wl_r (or_alloc tI25 rfl) rfl rfl (kt1 rfl (fun g5 => ?_))
  refine wl_r0 (or_store_blk (vs := [.int .i64 (((m_11 : Nat) : Int)), .slice A2_11 (es_11.length) (c2_11)]) (cs' := [.int .i64 (((m_11 : Nat) : Int)), .slice A2_11 (es_11.length) (c2_11)]) (.head) tI25 rfl rfl rfl rfl (Nat.le_of_ble_eq_true rfl) rfl) rfl rfl (kn0 ?_)
  refine wl_nil ?_
  refine ce_then ?_
  refine cw_seq ?_
  refine cw_region ?_
  refine wl_v (ov_move rfl) rfl rfl rfl ?_
  refine wl_v (ov_loadAgg (vs := [.int .i64 (((m_11 : Nat) : Int)), .slice A2_11 (es_11.length) (c2_11)]) tI25 (holds_blk (List.Mem.head _)) rfl some_lit rfl rfl) rfl rfl rfl ?_
  refine wl_r (or_call (fv := []) (vs := [.agg #[.int .i64 (((m_11 : Nat) : Int)), .slice A2_11 (es_11.length) (c2_11)]]) (cs := []) en85 rfl rfl (call_x2 (fun w hw => complementS_c w m_11 A2_11 es_11.length c2_11 es_11 ((holds_row (List.Mem.tail _ (List.Mem.head _))) w hw) rfl h_11.2.1.1 (by omega) (by omega)))) rfl rfl (kt2p rfl (fun A2_15 c2_15 h_15 => ?_))
  refine wl_r (or_call (fv := []) (vs := [elp (some ⟨g_9, 0, none⟩) (0), .agg #[.int .i64 (((m_11 : Nat) : Int)), .slice A2_15 ((compl m_11 es_11 (prs m_11).length).length) (c2_15)]]) (cs := []) en71 rfl rfl (call_o (.cons (.tail (.tail (.tail .head))) (.cons (.head) (.cons (.head) (.cons (.head) (.nil))))) (fun w hw => partDeg_c w _ _ _ ((m_11 : Nat) : Int) A2_15 ((compl m_11 es_11 (prs m_11).length).length) c2_15 (compl m_11 es_11 (prs m_11).length) g_9 Ar n2_9 cr (bs.take n2_9) q_11 (holds_row (List.Mem.head _)) rfl h_15 (holds_takeC (k := n2_9) fY_len (holds_old oAr)) (by rw [List.length_take]; omega) (by omega) ⟨by omega, fun x hx => hb x (List.mem_of_mem_take hx), by omega⟩ (by have := (coG_gr m_11 es_11).len (by omega); exact this) (by omega) hw))) rfl rfl (kt4p rfl (fun A2_16 c2_16 ys_16 q_16 h_16 => ?_))
  refine wl_v (ov_move rfl) rfl rfl rfl ?_
  refine wl_v (ov_extract rfl rfl) rfl rfl rfl ?_
  refine wl_v (ov_extract rfl rfl) rfl rfl rfl ?_
  refine wl_r (or_alloc tI25 rfl) rfl rfl (kt1 rfl (fun g6 => ?_))
  refine wl_r0 (or_store_blk (vs := [.int .i64 (((m_11 : Nat) : Int)), .slice A2_15 (((compl m_11 es_11 (prs m_11).length).length)) (c2_15)]) (cs' := [.int .i64 (((m_11 : Nat) : Int)), .slice A2_15 (((compl m_11 es_11 (prs m_11).length).length)) (c2_15)]) (.head) tI25 rfl rfl rfl rfl (Nat.le_of_ble_eq_true rfl) rfl) rfl rfl (kn0 ?_)
  refine wl_v (ov_assign rfl) rfl rfl rfl ?_
  refine wl_nil ?_
  refine ce_then ?_
  refine cw_seq ?_
  refine cw_region ?_
  refine wl_v (ov_loadAgg (vs := [.int .i64 (((m_11 : Nat) : Int)), .slice A2_11 (es_11.length) (c2_11)]) tI25 (holds_blk (List.Mem.tail _ (List.Mem.tail _ (List.Mem.tail _ (List.Mem.tail _ (List.Mem.head _)))))) rfl some_lit rfl rfl) rfl rfl rfl ?_
  refine wl_r (or_call (fv := []) (vs := [.agg #[.int .i64 (((m_11 : Nat) : Int)), .slice A2_11 (es_11.length) (c2_11)]]) (cs := []) en86 rfl rfl (call_x1 (fun w hw => degreesS_c w m_11 A2_11 es_11.length c2_11 es_11 ((holds_row (List.Mem.tail _ (List.Mem.tail _ (List.Mem.tail _ (List.Mem.tail _ (List.Mem.tail _ (List.Mem.head _))))))) w hw) rfl h_11.2.1.1 (by omega) (by omega) hg11.inr))) rfl rfl (kt1p rfl (fun g_20 h_20 => ?_))
  refine wl_v (ov_move rfl) rfl rfl rfl ?_
  refine wl_v (ov_assign rfl) rfl rfl rfl ?_
  refine wl_v (ov_assign rfl) rfl rfl rfl ?_
  refine wl_nil ?_
  refine ce_then ?_
  refine cw_ret ?_
  refine ce_results (v := .tuple #[.slice (some ⟨g_20, 0, none⟩) (m_11) (m_11), .slice A2_16 (ys_16.length) (c2_16)]) (res2 rfl (rv_t rfl) (rv_t rfl)) (fun w' hw => ?_)
  exact ⟨some ⟨g_20, 0, none⟩, m_11, degs m_11 es_11, A2_16, c2_16, ys_16, ⟨⟨by omega, by omega, hsm11⟩, h_16.1⟩, (by rw [hdl11]), ((.consE (show row 3 1 (some ⟨g_20, 0, none⟩) (m_11) (m_11) (cells fI (degs m_11 es_11)) = row 3 1 (some ⟨g_20, 0, none⟩) ((degs m_11 es_11).length) (m_11) (cells fI (degs m_11 es_11)) by rw [hdl11]) (.head) (.cons (.tail .head) (.nil)) : Keep _ _).ss hw).to_new⟩
set_option maxRecDepth 100000 in
theorem un1_c (w : World) (a : Int) (b : Int) (g1 : Nat) (g2 : Nat) (N : Int) (A : Option Addr) (n : Nat) (c : Nat) (es : List Ed) (M : Int) (A2 : Option Addr) (n2 : Nat) (c2 : Nat) (fs : List Ed) (hg1 : At w (some ⟨g1, 0, none⟩) [.int .i64 (N), .slice A (n) (c)]) (hg2 : At w (some ⟨g2, 0, none⟩) [.int .i64 (M), .slice A2 (n2) (c2)]) (hA : At w A (cells fE es)) (hq : es.length = n) (lA : n ≤ c) (hA2 : At w A2 (cells fE fs)) (hq2 : fs.length = n2) (lA2 : n2 ≤ c2) (hs : n ≤ 1048576 ∧ n2 ≤ 1048576) : Calls Try.prog 90 #[.int .i64 (a), .int .i64 (b), elp (some ⟨g1, 0, none⟩) (0), elp (some ⟨g2, 0, none⟩) (0)] w (Ret fun rv w' => rv = .bool (decide ((min a b, max a b) ∈ es ∨ (min a b, max a b) ∈ fs)) ∧ New w w' []) := by
  have og1 := hg1.atB
  have og2 := hg2.atB
  have oA := hA.atB
  have oA2 := hA2.atB
  refine fn_enter (args := [.int .i64 (a), .int .i64 (b), elp (some ⟨g1, 0, none⟩) (0), elp (some ⟨g2, 0, none⟩) (0)]) Try.func90 rfl Try.ntmps90 rfl (SS.start w) ?_
  refine cw_seq ?_
  refine cw_region ?_
  refine wl_v (ov_assign rfl) rfl rfl rfl ?_
  refine wl_nil ?_
  refine ce_then ?_
  refine cw_seq ?_
  refine cw_region ?_
  refine wl_v (ov_loadAgg (vs := [.int .i64 (N), .slice A (n) (c)]) tI25 (holds_old og1) rfl some_lit rfl rfl) rfl rfl rfl ?_
  refine wl_v (ov_move rfl) rfl rfl rfl ?_
  refine wl_v (ov_move rfl) rfl rfl rfl ?_
  refine wl_r (or_call (fv := []) (vs := [.agg #[.int .i64 (N), .slice A (n) (c)], .int .i64 (a), .int .i64 (b)]) (cs := []) en59 rfl rfl (call_v (fun w hw => has_c w N A n c es a b ((holds_old oA) w hw) hq lA (by omega)))) rfl rfl (kt_if rfl (fun c10 => ?_) (fun c10 => ?_))
  ·
    refine wl_v (ov_move rfl) rfl rfl rfl ?_
    refine wl_not rfl rfl rfl rfl rfl rfl ?_
    refine wl_not rfl rfl rfl rfl rfl rfl ?_
    refine wl_not rfl rfl rfl rfl rfl rfl ?_
    refine wl_not rfl rfl rfl rfl rfl rfl ?_
    refine wl_v (ov_pick_t rfl rfl) rfl rfl rfl ?_
    refine wl_v (ov_assign rfl) rfl rfl rfl ?_
    refine wl_nil ?_
    refine ce_then ?_
    refine cw_ret ?_
    refine ce_results (v := .bool true) (res1 rfl (rv_t rfl)) (fun w' hw => ?_)
    exact ⟨(by rw [decide_eq_true (.inl c10)]), (Keep.nil.ss hw).to_new⟩
  ·
    refine wl_v (ov_move rfl) rfl rfl rfl ?_
    refine wl_go rfl rfl ?_
    refine wl_v (ov_loadAgg (vs := [.int .i64 (M), .slice A2 (n2) (c2)]) tI25 (holds_old og2) rfl some_lit rfl rfl) rfl rfl rfl ?_
    refine wl_go rfl rfl ?_
    refine wl_v (ov_move rfl) rfl rfl rfl ?_
    refine wl_go rfl rfl ?_
    refine wl_v (ov_move rfl) rfl rfl rfl ?_
    refine wl_go rfl rfl ?_
    refine wl_r (or_call (fv := []) (vs := [.agg #[.int .i64 (M), .slice A2 (n2) (c2)], .int .i64 (a), .int .i64 (b)]) (cs := []) en59 rfl rfl (call_v (fun w hw => has_c w M A2 n2 c2 fs a b ((holds_old oA2) w hw) hq2 lA2 (by omega)))) rfl rfl (kt_if rfl (fun c15 => ?_) (fun c15 => ?_))
    ·
      refine wl_v (ov_pick_f rfl rfl) rfl rfl rfl ?_
      refine wl_v (ov_assign rfl) rfl rfl rfl ?_
      refine wl_nil ?_
      refine ce_then ?_
      refine cw_ret ?_
      refine ce_results (v := .bool true) (res1 rfl (rv_t rfl)) (fun w' hw => ?_)
      exact ⟨(by rw [decide_eq_true (.inr c15)]), (Keep.nil.ss hw).to_new⟩
    ·
      refine wl_v (ov_pick_f rfl rfl) rfl rfl rfl ?_
      refine wl_v (ov_assign rfl) rfl rfl rfl ?_
      refine wl_nil ?_
      refine ce_then ?_
      refine cw_ret ?_
      refine ce_results (v := .bool false) (res1 rfl (rv_t rfl)) (fun w' hw => ?_)
      exact ⟨(by rw [decide_eq_false (fun h => h.elim c10 c15)]), (Keep.nil.ss hw).to_new⟩
set_option maxRecDepth 100000 in
theorem UnionI_c (w : World) (N : Int) (A : Option Addr) (n : Nat) (c : Nat) (es : List (Int × Int)) (M : Int) (A2 : Option Addr) (n2 : Nat) (c2 : Nat) (fs : List (Int × Int)) (hA : At w A (cells fE es)) (eA : es.length = n) (lA : n ≤ c) (hA2 : At w A2 (cells fE fs)) (eA2 : fs.length = n2) (lA2 : n2 ≤ c2) (hs : es.length ≤ 1048576 ∧ fs.length ≤ 1048576) (hN : N ≤ 9223372036854775807 ∧ M ≤ 9223372036854775807) : Calls Try.prog 39 #[.agg #[.int .i64 (N), .slice A (n) (c)], .agg #[.int .i64 (M), .slice A2 (n2) (c2)]] w (Ret fun rv w' => ∃ A3 k3 c3, ((uniV N es M fs).2.1.length ≤ k3) ∧ rv = .tuple #[.agg #[.int .i64 ((uniV N es M fs).1), .slice A3 ((uniV N es M fs).2.1.length) (k3)], .bool ((uniV N es M fs).2.2)] ∧ New w w' [row 43 2 A3 ((uniV N es M fs).2.1.length) (c3) (cells fE ((uniV N es M fs).2.1))]) := by
  have oA := hA.atB
  subst eA
  have oA2 := hA2.atB
  subst eA2
  refine fn_enter (args := [.agg #[.int .i64 (N), .slice A (es.length) (c)], .agg #[.int .i64 (M), .slice A2 (fs.length) (c2)]]) Try.func39 rfl Try.ntmps39 rfl (SS.start w) ?_
  refine cw_seq ?_
  refine cw_region ?_
  refine wl_r (or_box rfl rfl) rfl rfl (kt1 rfl (fun g2 => ?_))
  refine wl_r (or_box rfl rfl) rfl rfl (kt1 rfl (fun g3 => ?_))
  refine wl_r (or_alloc tI25 rfl) rfl rfl (kt1 rfl (fun g4 => ?_))
  refine wl_v (ov_assign rfl) rfl rfl rfl ?_
  refine wl_nil ?_
  refine ce_then ?_
  refine cw_seq ?_
  refine cw_seq ?_
  refine cw_region ?_
  refine wl_v (ov_loadAgg (vs := [.int .i64 (N), .slice A (es.length) (c)]) tI25 (holds_blk (List.Mem.tail _ (List.Mem.tail _ (List.Mem.head _)))) rfl some_lit rfl rfl) rfl rfl rfl ?_
  refine wl_v (ov_loadAgg (vs := [.int .i64 (M), .slice A2 (fs.length) (c2)]) tI25 (holds_blk (List.Mem.tail _ (List.Mem.head _))) rfl some_lit rfl rfl) rfl rfl rfl ?_
  refine wl_r (or_call (fv := []) (vs := [.agg #[.int .i64 (N), .slice A (es.length) (c)], .agg #[.int .i64 (M), .slice A2 (fs.length) (c2)]]) (cs := []) en75 rfl rfl (call_v (fun w hw => both_c w N A es.length c es M A2 fs.length c2 fs ((holds_old oA) w hw) rfl lA ((holds_old oA2) w hw) rfl lA2 (by first | assumption | omega | (simp; omega)) (by first | assumption | omega | (simp; omega))))) rfl rfl (kt_if rfl (fun c8 => ?_) (fun c8 => ?_))
  ·
    refine wl_v (ov_not rfl) rfl rfl rfl ?_
    refine wl_nil ?_
    refine ce_then ?_
    refine cw_false rfl ?_
    refine cw_skip ?_
    refine ce_then ?_
    refine cw_seq ?_
    obtain ⟨m, rfl⟩ := Int.eq_ofNat_of_zero_le (show 0 ≤ N from c8.1.2.1)
    have hm : m ≤ 7 := by have h9 := c8.1.2.2; omega
    have hv : uniV ((m : Nat) : Int) es M fs = (((m : Nat) : Int), uniG m es fs, true) := (if_pos c8).trans (by rw [Int.toNat_natCast])
    have hv1 : (uniV ((m : Nat) : Int) es M fs).1 = ((m : Nat) : Int) := by rw [hv]
    have hv2 : (uniV ((m : Nat) : Int) es M fs).2.1 = uniG m es fs := by rw [hv]
    have hv3 : (uniV ((m : Nat) : Int) es M fs).2.2 = true := by rw [hv]
    refine cw_region ?_
    refine wl_v (ov_fieldAddr fI25_0 some_lit rfl) rfl rfl rfl ?_
    refine wl_v (ov_load tI3 (holds_blk (List.Mem.tail _ (List.Mem.tail _ (List.Mem.head _)))) rfl rfl) rfl rfl rfl ?_
    refine wl_v (ov_makeFunc (vs := #[elp (some ⟨g2, 0, none⟩) (0), elp (some ⟨g3, 0, none⟩) (0)]) rfl) rfl rfl rfl ?_
    refine wl_r (or_call (fv := []) (vs := [.int .i64 (((m : Nat) : Int)), .func (.func 90) #[] #[elp (some ⟨g2, 0, none⟩) (0), elp (some ⟨g3, 0, none⟩) (0)]]) (cs := []) en55 rfl rfl (call_x2 (fun w hw => which_c w m 90 ([elp (some ⟨g2, 0, none⟩) (0), elp (some ⟨g3, 0, none⟩) (0)]) (fun e : Ed => decide (e ∈ es ∨ e ∈ fs)) (by first | assumption | omega | (simp; omega)) en90 (fun x hx w' hb => by have h9 := mem_prs.1 hx; have e9 : (min x.1 x.2, max x.1 x.2) = x := Prod.ext (by simp; omega) (by simp; omega); have h8 := un1_c w' x.1 x.2 g2 g3 ((m : Nat) : Int) A es.length c es M A2 fs.length c2 fs ((holds_blk (List.Mem.tail _ (List.Mem.tail _ (List.Mem.head _)))) w' (hw.later hb)) ((holds_blk (List.Mem.tail _ (List.Mem.head _))) w' (hw.later hb)) ((holds_old oA) w' (hw.later hb)) rfl lA ((holds_old oA2) w' (hw.later hb)) rfl lA2 (by omega); rw [e9] at h8; exact h8)))) rfl rfl (kt2p rfl (fun A2_14 c2_14 h_14 => ?_))
    refine wl_r0 (or_store_blk (vs := [.int .i64 (((m : Nat) : Int)), .slice A2_14 (((prs m).filter (fun e : Ed => decide (e ∈ es ∨ e ∈ fs))).length) (((prs m).filter (fun e : Ed => decide (e ∈ es ∨ e ∈ fs))).length)]) (cs' := [.int .i64 (((m : Nat) : Int)), .slice A2_14 (((prs m).filter (fun e : Ed => decide (e ∈ es ∨ e ∈ fs))).length) (((prs m).filter (fun e : Ed => decide (e ∈ es ∨ e ∈ fs))).length)]) (.tail .head) tI25 rfl rfl rfl rfl (Nat.le_of_ble_eq_true rfl) rfl) rfl rfl (kn0 ?_)
    refine wl_v (ov_assign rfl) rfl rfl rfl ?_
    refine wl_nil ?_
    refine ce_then ?_
    refine cw_ret ?_
    refine ce_results (v := .tuple #[.agg #[.int .i64 (((m : Nat) : Int)), .slice A2_14 (((prs m).filter (fun e : Ed => decide (e ∈ es ∨ e ∈ fs))).length) (((prs m).filter (fun e : Ed => decide (e ∈ es ∨ e ∈ fs))).length)], .bool true]) (res2 rfl (rv_c rfl tI25 rfl (List.Mem.head _)) (rv_t rfl)) (fun w' hw => ?_)
    exact ⟨A2_14, (uniV ((m : Nat) : Int) es M fs).2.1.length, c2_14, (Nat.le_refl _), (by rw [hv1, hv2, hv3]; rfl), ((.consE (show row 43 2 A2_14 (((prs m).filter (fun e : Ed => decide (e ∈ es ∨ e ∈ fs))).length) (c2_14) (cells fE ((prs m).filter (fun e : Ed => decide (e ∈ es ∨ e ∈ fs)))) = row 43 2 A2_14 ((uniV ((m : Nat) : Int) es M fs).2.1.length) (c2_14) (cells fE ((uniV ((m : Nat) : Int) es M fs).2.1)) by rw [hv2]; rfl) (.tail .head) (.nil) : Keep _ _).ss hw).to_new⟩
  ·
    have hv : uniV N es M fs = (0, [], false) := if_neg c8
    refine ct_none fE 43 2 ?_
    refine wl_v (ov_not rfl) rfl rfl rfl ?_
    refine wl_nil ?_
    refine ce_then ?_
    refine cw_true rfl ?_
    refine cw_seq ?_
    refine cw_region ?_
    refine wl_v (ov_build (is := []) (vs := []) (v := .agg #[.int .i64 (0), .slice none (0) (0)]) rfl rfl (fun _ => by kernel_rfl)) rfl rfl rfl ?_
    refine wl_r0 (or_store_blk (vs := [.int .i64 (0), .slice none (0) (0)]) (cs' := [.int .i64 (0), .slice none (0) (0)]) (.tail .head) tI25 rfl rfl rfl rfl (Nat.le_of_ble_eq_true rfl) rfl) rfl rfl (kn0 ?_)
    refine wl_v (ov_assign rfl) rfl rfl rfl ?_
    refine wl_nil ?_
    refine ce_then ?_
    refine cw_ret ?_
    refine ce_then_ret ?_
    refine ce_results (v := .tuple #[.agg #[.int .i64 (0), .slice none (0) (0)], .bool false]) (res2 rfl (rv_c rfl tI25 rfl (List.Mem.head _)) (rv_t rfl)) (fun w' hw => ?_)
    exact ⟨none, 0, 0, (by rw [hv]; exact Nat.le_refl _), (by rw [hv] <;> rfl), ((.consE (show row 43 2 none (0) (0) (cells fE ([])) = row 43 2 none ((uniV N es M fs).2.1.length) (0) (cells fE ((uniV N es M fs).2.1)) by rw [hv] <;> rfl) (.tail .head) (.nil) : Keep _ _).ss hw).to_new⟩
set_option maxRecDepth 100000 in
theorem ComplGI_c (w : World) (N : Int) (A : Option Addr) (n : Nat) (c : Nat) (es : List (Int × Int)) (hA : At w A (cells fE es)) (eA : es.length = n) (lA : n ≤ c) (hs : es.length ≤ 1048576) (hN : N ≤ 9223372036854775807) : Calls Try.prog 40 #[.agg #[.int .i64 (N), .slice A (n) (c)]] w (Ret fun rv w' => ∃ A3 k3 c3, ((cplV N es).2.length ≤ k3) ∧ rv = .agg #[.int .i64 ((cplV N es).1), .slice A3 ((cplV N es).2.length) (k3)] ∧ New w w' [row 43 2 A3 ((cplV N es).2.length) (c3) (cells fE ((cplV N es).2))]) := by
  have oA := hA.atB
  subst eA
  refine fn_enter (args := [.agg #[.int .i64 (N), .slice A (es.length) (c)]]) Try.func40 rfl Try.ntmps40 rfl (SS.start w) ?_
  refine cw_seq ?_
  refine cw_region ?_
  refine wl_r (or_box rfl rfl) rfl rfl (kt1 rfl (fun g1 => ?_))
  refine wl_r (or_alloc tI25 rfl) rfl rfl (kt1 rfl (fun g2 => ?_))
  refine wl_nil ?_
  refine ce_then ?_
  refine cw_seq ?_
  refine cw_seq ?_
  refine cw_region ?_
  refine wl_v (ov_loadAgg (vs := [.int .i64 (N), .slice A (es.length) (c)]) tI25 (holds_blk (List.Mem.tail _ (List.Mem.head _))) rfl some_lit rfl rfl) rfl rfl rfl ?_
  refine wl_r (or_call (fv := []) (vs := [.agg #[.int .i64 (N), .slice A (es.length) (c)]]) (cs := []) en12 rfl rfl (call_v (fun w hw => validGraphI_c w N A es.length c es ((holds_old oA) w hw) rfl lA (by first | assumption | omega | (simp; omega)) (by first | assumption | omega | (simp; omega))))) rfl rfl (kt_if rfl (fun c4 => ?_) (fun c4 => ?_))
  ·
    refine wl_v (ov_not rfl) rfl rfl rfl ?_
    refine wl_nil ?_
    refine ce_then ?_
    refine cw_false rfl ?_
    refine cw_skip ?_
    refine ce_then ?_
    refine cw_seq ?_
    obtain ⟨m, rfl⟩ := Int.eq_ofNat_of_zero_le (show 0 ≤ N from c4.2.1)
    have hg : Gr m es := by have h9 := c4.gr; rwa [Int.toNat_natCast] at h9
    have hm : m ≤ 7 := by have h9 := c4.2.2; omega
    have hv : cplV ((m : Nat) : Int) es = (((m : Nat) : Int), coG m es) := (if_pos c4).trans (by rw [Int.toNat_natCast])
    have hv1 : (cplV ((m : Nat) : Int) es).1 = ((m : Nat) : Int) := by rw [hv]
    have hv2 : (cplV ((m : Nat) : Int) es).2 = coG m es := by rw [hv]
    refine cw_region ?_
    refine wl_v (ov_loadAgg (vs := [.int .i64 (((m : Nat) : Int)), .slice A (es.length) (c)]) tI25 (holds_blk (List.Mem.tail _ (List.Mem.head _))) rfl some_lit rfl rfl) rfl rfl rfl ?_
    refine wl_r (or_call (fv := []) (vs := [.agg #[.int .i64 (((m : Nat) : Int)), .slice A (es.length) (c)]]) (cs := []) en88 rfl rfl (call_x2 (fun w hw => complI_c w m A es.length c es ((holds_old oA) w hw) rfl lA hg hm))) rfl rfl (kt2p rfl (fun A2_8 c2_8 h_8 => ?_))
    refine wl_r0 (or_store_blk (vs := [.int .i64 (((m : Nat) : Int)), .slice A2_8 ((compl m es (prs m).length).length) ((compl m es (prs m).length).length)]) (cs' := [.int .i64 (((m : Nat) : Int)), .slice A2_8 ((compl m es (prs m).length).length) ((compl m es (prs m).length).length)]) (.tail .head) tI25 rfl rfl rfl rfl (Nat.le_of_ble_eq_true rfl) rfl) rfl rfl (kn0 ?_)
    refine wl_nil ?_
    refine ce_then ?_
    refine cw_ret ?_
    refine ce_results (v := .agg #[.int .i64 (((m : Nat) : Int)), .slice A2_8 ((compl m es (prs m).length).length) ((compl m es (prs m).length).length)]) (res1 rfl (rv_c rfl tI25 rfl (List.Mem.head _))) (fun w' hw => ?_)
    exact ⟨A2_8, (cplV ((m : Nat) : Int) es).2.length, c2_8, (Nat.le_refl _), (by rw [hv1, hv2]), ((.consE (show row 43 2 A2_8 ((compl m es (prs m).length).length) (c2_8) (cells fE (compl m es (prs m).length)) = row 43 2 A2_8 ((cplV ((m : Nat) : Int) es).2.length) (c2_8) (cells fE ((cplV ((m : Nat) : Int) es).2)) by rw [hv2]) (.tail .head) (.nil) : Keep _ _).ss hw).to_new⟩
  ·
    have hv : cplV N es = (0, []) := if_neg c4
    refine ct_none fE 43 2 ?_
    refine wl_v (ov_not rfl) rfl rfl rfl ?_
    refine wl_nil ?_
    refine ce_then ?_
    refine cw_true rfl ?_
    refine cw_seq ?_
    refine cw_region ?_
    refine wl_v (ov_build (is := []) (vs := []) (v := .agg #[.int .i64 (0), .slice none (0) (0)]) rfl rfl (fun _ => by kernel_rfl)) rfl rfl rfl ?_
    refine wl_r0 (or_store_blk (vs := [.int .i64 (0), .slice none (0) (0)]) (cs' := [.int .i64 (0), .slice none (0) (0)]) (.tail .head) tI25 rfl rfl rfl rfl (Nat.le_of_ble_eq_true rfl) rfl) rfl rfl (kn0 ?_)
    refine wl_nil ?_
    refine ce_then ?_
    refine cw_ret ?_
    refine ce_then_ret ?_
    refine ce_results (v := .agg #[.int .i64 (0), .slice none (0) (0)]) (res1 rfl (rv_c rfl tI25 rfl (List.Mem.head _))) (fun w' hw => ?_)
    exact ⟨none, 0, 0, (by rw [hv]; exact Nat.le_refl _), (by rw [hv] <;> rfl), ((.consE (show row 43 2 none (0) (0) (cells fE ([])) = row 43 2 none ((cplV N es).2.length) (0) (cells fE ((cplV N es).2)) by rw [hv] <;> rfl) (.tail .head) (.nil) : Keep _ _).ss hw).to_new⟩
end Go.Proofs.Ytfjgfocjogfodaa.W37
