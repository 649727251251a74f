/- Walks of functions of the given program: each returns what its Lean function says and leaves the memory that was there as it was. Conditions: those of each theorem. -/
import Derived.Test.YtfjgfocjogfodaaSm
import Derived.Test.YtfjgfocjogfodaaProg
import Derived.Test.YtfjgfocjogfodaaPl
import Derived.Test.YtfjgfocjogfodaaPo
import Derived.Test.YtfjgfocjogfodaaPd
import Derived.Test.YtfjgfocjogfodaaPe
import Derived.Test.YtfjgfocjogfodaaPh
import Derived.Test.YtfjgfocjogfodaaPm
import Derived.Test.YtfjgfocjogfodaaPc
import Derived.Test.YtfjgfocjogfodaaPs
import Derived.Test.YtfjgfocjogfodaaPt
import Derived.Test.YtfjgfocjogfodaaPu
import Derived.Test.YtfjgfocjogfodaaPv
import Derived.Test.YtfjgfocjogfodaaPw
import Derived.Test.YtfjgfocjogfodaaPx
import Derived.Test.YtfjgfocjogfodaaPy
import Derived.Test.YtfjgfocjogfodaaPz
import Derived.Test.YtfjgfocjogfodaaPr
import Derived.Test.YtfjgfocjogfodaaT
import Derived.Test.YtfjgfocjogfodaaW11
import Derived.KernelRfl
namespace Go.Proofs.Ytfjgfocjogfodaa.W37
open Go.Sx Go.RowKit Go.Proofs.Ytfjgfocjogfodaa.T Go.Proofs.Ytfjgfocjogfodaa.W11
open Go.Plain
set_option linter.unusedVariables false
set_option maxRecDepth 100000 in
theorem smallGraph_c (w w0 : World) (Bd : Nat) (F : List Ent) (g : Nat) (Ar : Option Addr) (nr : Nat) (cr : Nat) (bs : List Nat) (p : Nat) (hAr : Holds (SS w0 Bd F) Ar (cells fY bs)) (eAr : bs.length = nr) (lAr : nr ≤ cr) (hy : nr ≤ 2000 ∧ (∀ x ∈ bs, x < 256) ∧ p ≤ 85000) (hss : SS w0 Bd ((blk g [.slice Ar (nr) (cr), .int .i64 (((p : Nat) : Int))] 99) :: F) w) : Calls Try.prog 79 #[elp (some ⟨g, 0, none⟩) (0)] w (Ret fun rv w' => ∃ m A2 c2 es q, (m ≤ 5 ∧ (es.length ≤ c2 ∧ es.Sublist (prs m)) ∧ p ≤ q ∧ q ≤ p + 210) ∧ rv = .agg #[.int .i64 (((m : Nat) : Int)), .slice A2 (es.length) (c2)] ∧ SS w0 Bd ((row 43 2 A2 (es.length) (c2) (cells fE es)) :: (blk g [.slice Ar (nr) (cr), .int .i64 (((q : Nat) : Int))] 99) :: F) w') := by
  refine fn_enter (args := [elp (some ⟨g, 0, none⟩) (0)]) Try.func79 rfl Try.ntmps79 rfl hss ?_
  refine cw_seq ?_
  refine cw_region ?_
  refine wl_r (or_alloc tI25 rfl) rfl rfl (kt1 rfl (fun g2 => ?_))
  refine wl_nil ?_
  refine ce_then ?_
  refine cw_seq ?_
  refine cw_region ?_
  refine wl_v (ov_move rfl) rfl rfl rfl ?_
  refine wl_v (ov_move rfl) rfl rfl rfl ?_
  refine wl_r (or_buildSlice (e := 3) (size := 1) (is := [0, 1, 2, 3, 4, 5]) (vs := [.int .i64 (5), .int .i64 (4), .int .i64 (5), .int .i64 (3), .int .i64 (2), .int .i64 (1)]) (cs := cells fI ([5, 4, 5, 3, 2, 1])) rfl rfl rfl (by decide) (fun _ => by kernel_rfl)) rfl rfl (kt1 rfl (fun g5 => ?_))
  refine wl_r (or_call (fv := []) (vs := [elp (some ⟨g, 0, none⟩) (0), .slice (some ⟨g5, 0, none⟩) (6) (6)]) (cs := []) en51 rfl rfl (call_o (.cons (.tail (.tail .head)) (.cons (.head) (.cons (.head) (.refl)))) (fun w hw => one_c w _ _ _ (some ⟨g5, 0, none⟩) 6 6 ([5, 4, 5, 3, 2, 1]) g Ar nr cr bs p (holds_row (List.Mem.head _)) (by first | rfl | assumption | (simp; done) | (simp; omega)) (Nat.le_refl _) (Holds.keepF hAr ((.drop (.drop .refl)))) (by first | rfl | assumption | (simp; done) | (simp; omega)) lAr ⟨hy.1, hy.2.1, by omega⟩ (by first | assumption | omega | (simp; omega)) hw))) rfl rfl (kt1p rfl (fun v_6 h_6 => ?_))
  have h6 : 0 ≤ v_6 ∧ v_6 ≤ 5 := (by simp at h_6; omega)
  obtain ⟨m, rfl⟩ := Int.eq_ofNat_of_zero_le (show 0 ≤ v_6 from h6.1)
  refine wl_r (or_call (fv := []) (vs := [elp (some ⟨g, 0, none⟩) (0), .int .i64 (((m : Nat) : Int))]) (cs := []) en125 rfl rfl (call_o (.cons (.head) (.cons (.head) (.cons (.head) (.refl)))) (fun w hw => aGraph_c w _ _ _ m g Ar nr cr bs (p + 1) (Holds.keepF hAr ((.drop (.drop .refl)))) (by first | rfl | assumption | (simp; done) | (simp; omega)) lAr ⟨hy.1, hy.2.1, by omega⟩ (by first | assumption | omega | (simp; omega)) hw))) rfl rfl (kt4p rfl (fun A2_7 c2_7 es_7 q_7 h_7 => ?_))
  refine wl_r0 (or_store_blk (vs := [.int .i64 (((m : Nat) : Int)), .slice A2_7 (es_7.length) (c2_7)]) (cs' := [.int .i64 (((m : Nat) : Int)), .slice A2_7 (es_7.length) (c2_7)]) (.tail (.tail (.tail .head))) tI25 rfl rfl rfl rfl (Nat.le_of_ble_eq_true rfl) rfl) rfl rfl (kn0 ?_)
  refine wl_nil ?_
  refine ce_then ?_
  refine cw_ret ?_
  refine ce_results (v := .agg #[.int .i64 (((m : Nat) : Int)), .slice A2_7 (es_7.length) (c2_7)]) (res1 rfl (rv_c rfl tI25 rfl (List.Mem.head _))) (fun w' hw => ?_)
  exact ⟨m, A2_7, c2_7, es_7, q_7, ⟨by omega, h_7.1, by omega, by omega⟩, rfl, ((.cons (.tail .head) (.cons (.tail .head) ((.drop (.drop .refl)))) : Keep _ _).ss hw)⟩
end Go.Proofs.Ytfjgfocjogfodaa.W37
