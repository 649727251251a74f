/- Walks of functions of the given program: each returns what its Lean function says and leaves the memory that was there as it was. Conditions: those of each theorem. -/
import Derived.Test.YthbfgkeoojghoaaSm
import Derived.Test.YthbfgkeoojghoaaProg
import Derived.Test.YthbfgkeoojghoaaPl
import Derived.Test.YthbfgkeoojghoaaPo
import Derived.Test.YthbfgkeoojghoaaPd
import Derived.Test.YthbfgkeoojghoaaPe
import Derived.Test.YthbfgkeoojghoaaPh
import Derived.Test.YthbfgkeoojghoaaPm
import Derived.Test.YthbfgkeoojghoaaPc
import Derived.Test.YthbfgkeoojghoaaPs
import Derived.Test.YthbfgkeoojghoaaPt
import Derived.Test.YthbfgkeoojghoaaPu
import Derived.Test.YthbfgkeoojghoaaPv
import Derived.Test.YthbfgkeoojghoaaPw
import Derived.Test.YthbfgkeoojghoaaPx
import Derived.Test.YthbfgkeoojghoaaPy
import Derived.Test.YthbfgkeoojghoaaPz
import Derived.Test.YthbfgkeoojghoaaSo
import Derived.Test.YthbfgkeoojghoaaSh
import Derived.Test.YthbfgkeoojghoaaT
import Derived.Test.YthbfgkeoojghoaaW2
import Derived.Test.YthbfgkeoojghoaaW5
import Derived.Test.YthbfgkeoojghoaaW13
import Derived.KernelRfl
namespace Go.Proofs.Ythbfgkeoojghoaa.W14
open Go.Sx Go.RowKit Go.Proofs.Ythbfgkeoojghoaa.T Go.Proofs.Ythbfgkeoojghoaa.W2 Go.Proofs.Ythbfgkeoojghoaa.W5 Go.Proofs.Ythbfgkeoojghoaa.W13
open Go.Plain
set_option linter.unusedVariables false
set_option maxRecDepth 100000 in
theorem OddPartsI_c (w : World) (N : Int) (A : Option Addr) (n : Nat) (c : Nat) (es : List (Int × Int)) (A1 : Option Addr) (n1 : Nat) (c1 : Nat) (ss : List (Int)) (hA : At w A (cells fE es)) (eA : es.length = n) (lA : n ≤ c) (hA1 : At w A1 (cells fI ss)) (eA1 : ss.length = n1) (lA1 : n1 ≤ c1) (hs : es.length ≤ 1048576 ∧ ss.length ≤ 1048576) (hN : N ≤ 9223372036854775807) : Calls Try.prog 14 #[.agg #[.int .i64 (N), .slice A (n) (c)], .slice A1 (n1) (c1)] w (Ret fun rv w' => rv = .int .i64 (oddV N es ss) ∧ New w w' []) := by
  have oA := hA.atB
  subst eA
  have oA1 := hA1.atB
  subst eA1
  have hW : ValidG N es → IntKind.i64.wrap (N - 1) = N - 1 := fun h => wrap_in (by have := h.2; omega)
  refine fn_enter (args := [.agg #[.int .i64 (N), .slice A (es.length) (c)], .slice A1 (ss.length) (c1)]) Try.func14 rfl Try.ntmps14 rfl (SS.start w) ?_
  refine cw_seq ?_
  refine cw_region ?_
  refine wl_r (or_box rfl rfl) rfl rfl (kt1 rfl (fun g2 => ?_))
  refine wl_v (ov_assign rfl) rfl rfl rfl ?_
  refine wl_nil ?_
  refine ce_then ?_
  refine cw_seq ?_
  refine cw_seq ?_
  refine cw_region ?_
  refine wl_v (ov_move rfl) rfl rfl rfl ?_
  refine wl_v (ov_len (sliceI_spec sI27) rfl) rfl rfl rfl ?_
  refine wl_v (ov_move rfl) rfl rfl rfl ?_
  refine wl_nil ?_
  refine ce_then ?_
  refine cw_block ?_
  refine cw_loop1 (fun (k : Nat) => [(1, .slice A1 (ss.length) (c1)), (2, elp (some ⟨g2, 0, none⟩) (0)), (7, .slice A1 (ss.length) (c1)), (8, .int .i64 (((ss.length : Nat) : Int))), (9, .int .i64 (((k : Nat) : Int)))]) (fun (k : Nat) => [blk g2 [.int .i64 (N), .slice A (es.length) (c)] 25]) (fun (k : Nat) => k ≤ ss.length ∧ ∀ i, i < k → okS (IntKind.i64.wrap (N - 1)) ss i) (fun (k : Nat) => ss.length - k) 0 ⟨by omega, fun i hi => absurd hi (Nat.not_lt_zero _)⟩ (.cons rfl (.cons rfl (.cons rfl (.cons rfl (.cons (congrArg (fun z => some (Value.int .i64 z)) (show 0 = ((0 : Nat) : Int) by first | omega | rfl | (simp; done))) (.nil)))))) (.cons (.head) (.nil)) ?_
  intro R0 k hk hR0
  obtain ⟨hk1, hk2⟩ := hk
  refine cw_seq ?_
  refine cw_region ?_
  refine wl_if (ov_lss rfl rfl) rfl rfl rfl (fun c10 => ?_) (fun c10 => ?_)
  ·
    refine wl_nil ?_
    refine ce_then ?_
    refine cw_seq ?_
    refine cw_true rfl ?_
    refine cw_skip ?_
    refine ce_then ?_
    refine cw_seq ?_
    refine cw_block ?_
    refine cw_seq ?_
    refine cw_region ?_
    refine wl_v (ov_move rfl) rfl rfl rfl ?_
    refine wl_v (ov_index (k := k) (c := c1) sI27 tI3 rfl rfl (some_holds (q := k * 1) (holds_old oA1) (by rw [cells_length fI_len]; have hlt : k < ss.length := (by omega); omega)) (show k < ss.length from (by omega))) rfl rfl rfl ?_
    refine wl_v (ov_load tI3 (holds_old oA1) rfl (get_fI (show k < ss.length from (by omega)))) rfl rfl rfl ?_
    refine wl_v (ov_assign rfl) rfl rfl rfl ?_
    refine wl_v (ov_assign rfl) rfl rfl rfl ?_
    refine wl_nil ?_
    refine ce_then ?_
    refine cw_seq ?_
    refine cw_region ?_
    refine wl_v (ov_move rfl) rfl rfl rfl ?_
    refine wl_v (ov_fieldAddr fI25_0 some_lit rfl) rfl rfl rfl ?_
    refine wl_v (ov_load tI3 (holds_blk (List.Mem.head _)) rfl rfl) rfl rfl rfl ?_
    refine wl_v (ov_subw rfl rfl) rfl rfl rfl ?_
    refine wl_r (or_call (fv := []) (vs := [.int .i64 ((ss.getD k 0)), .int .i64 (0), .int .i64 (IntKind.i64.wrap (N - 1))]) (cs := []) en58 rfl rfl (call_v (fun w hw => in_c w (ss.getD k 0) 0 (IntKind.i64.wrap (N - 1)) ))) rfl rfl (kt_if rfl (fun c18 => ?_) (fun c18 => ?_))
    ·
      refine wl_v (ov_not rfl) rfl rfl rfl ?_
      refine wl_v (ov_move rfl) rfl rfl rfl ?_
      refine wl_go rfl rfl ?_
      refine wl_v (ov_move rfl) rfl rfl rfl ?_
      refine wl_go rfl rfl ?_
      refine wl_if (ov_gtr rfl rfl) rfl rfl rfl (fun c22 => ?_) (fun c22 => ?_)
      ·
        refine wl_go rfl rfl ?_
        refine wl_v (ov_move rfl) rfl rfl rfl ?_
        refine wl_go rfl rfl ?_
        refine wl_v (ov_move rfl) rfl rfl rfl ?_
        refine wl_go rfl rfl ?_
        refine wl_v (ov_move rfl) rfl rfl rfl ?_
        refine wl_go rfl rfl ?_
        refine wl_v (ov_move rfl) rfl rfl rfl ?_
        refine wl_go rfl rfl ?_
        refine wl_v (ov_sub (r := ((k - 1 : Nat) : Int)) rfl rfl (by omega) (by omega)) rfl rfl rfl ?_
        refine wl_go rfl rfl ?_
        refine wl_v (ov_index (k := k - 1) (c := c1) sI27 tI3 rfl rfl (some_holds (q := (k - 1) * 1) (holds_old oA1) (by rw [cells_length fI_len]; have hlt : k - 1 < ss.length := (by omega); omega)) (show k - 1 < ss.length from (by omega))) rfl rfl rfl ?_
        refine wl_go rfl rfl ?_
        refine wl_v (ov_load tI3 (holds_old oA1) rfl (get_fI (show k - 1 < ss.length from (by omega)))) rfl rfl rfl ?_
        refine wl_go rfl rfl ?_
        refine wl_if (ov_leq rfl rfl) rfl rfl rfl (fun c30 => ?_) (fun c30 => ?_)
        ·
          refine wl_go rfl rfl ?_
          refine wl_v (ov_pick_t rfl rfl) rfl rfl rfl ?_
          refine wl_v (ov_pick_f rfl rfl) rfl rfl rfl ?_
          refine wl_nil ?_
          refine ce_then ?_
          refine cw_true rfl ?_
          refine cw_seq ?_
          refine cw_region ?_
          refine wl_v (ov_assign rfl) rfl rfl rfl ?_
          refine wl_nil ?_
          refine ce_then ?_
          refine cw_ret ?_
          refine ce_block_ret ?_
          refine ce_then_ret ?_
          refine ce_then_ret ?_
          refine ce_block_ret ?_
          refine ce_then_ret ?_
          refine ce_results (v := .int .i64 (-1)) (res1 rfl (rv_t rfl)) (fun w' hw => ?_)
          exact ⟨(by rw [oddV, if_neg (fun h => by have := (h.2 k (by omega)).2.2 (by omega); omega)]), (Keep.nil.ss hw).to_new⟩
        ·
          refine wl_go rfl rfl ?_
          refine wl_v (ov_pick_t rfl rfl) rfl rfl rfl ?_
          refine wl_v (ov_pick_f rfl rfl) rfl rfl rfl ?_
          refine wl_nil ?_
          refine ce_then ?_
          refine cw_false rfl ?_
          refine cw_skip ?_
          refine ce_block ?_
          refine ce_then ?_
          refine cw_region ?_
          refine wl_v (ov_add (r := ((k + 1 : Nat) : Int)) rfl rfl rfl (by omega)) rfl rfl rfl ?_
          refine wl_v (ov_move rfl) rfl rfl rfl ?_
          refine wl_nil ?_
          exact fun ac_ w_ hs_ => hR0 (k + 1) ⟨by omega, fun i hi => by rcases Nat.lt_succ_iff_lt_or_eq.1 hi with h | rfl; exact hk2 i h; exact ⟨c18.1, c18.2, fun _ => by omega⟩⟩ (by omega) ac_ w_ (hs_.weaken (.cons rfl (.cons rfl (.cons rfl (.cons rfl (.cons rfl (.nil)))))) (.cons (.head) (.nil)))
      ·
        refine wl_go rfl rfl ?_
        refine wl_v (ov_move rfl) rfl rfl rfl ?_
        refine wl_not rfl rfl rfl rfl rfl rfl ?_
        refine wl_not rfl rfl rfl rfl rfl rfl ?_
        refine wl_not rfl rfl rfl rfl rfl rfl ?_
        refine wl_not rfl rfl rfl rfl rfl rfl ?_
        refine wl_not rfl rfl rfl rfl rfl rfl ?_
        refine wl_not rfl rfl rfl rfl rfl rfl ?_
        refine wl_not rfl rfl rfl rfl rfl rfl ?_
        refine wl_go rfl rfl ?_
        refine wl_v (ov_pick_f rfl rfl) rfl rfl rfl ?_
        refine wl_v (ov_pick_f rfl rfl) rfl rfl rfl ?_
        refine wl_nil ?_
        refine ce_then ?_
        refine cw_false rfl ?_
        refine cw_skip ?_
        refine ce_block ?_
        refine ce_then ?_
        refine cw_region ?_
        refine wl_v (ov_add (r := ((k + 1 : Nat) : Int)) rfl rfl rfl (by omega)) rfl rfl rfl ?_
        refine wl_v (ov_move rfl) rfl rfl rfl ?_
        refine wl_nil ?_
        exact fun ac_ w_ hs_ => hR0 (k + 1) ⟨by omega, fun i hi => by rcases Nat.lt_succ_iff_lt_or_eq.1 hi with h | rfl; exact hk2 i h; exact ⟨c18.1, c18.2, fun _ => by omega⟩⟩ (by omega) ac_ w_ (hs_.weaken (.cons rfl (.cons rfl (.cons rfl (.cons rfl (.cons rfl (.nil)))))) (.cons (.head) (.nil)))
    ·
      refine wl_v (ov_not rfl) rfl rfl rfl ?_
      refine wl_v (ov_move rfl) rfl rfl rfl ?_
      refine wl_not rfl rfl rfl rfl rfl rfl ?_
      refine wl_not rfl rfl rfl rfl rfl rfl ?_
      refine wl_not rfl rfl rfl rfl rfl rfl ?_
      refine wl_notu rfl rfl rfl rfl rfl ?_
      refine wl_notu rfl rfl rfl rfl rfl ?_
      refine wl_notu rfl rfl rfl rfl rfl ?_
      refine wl_notu rfl rfl rfl rfl rfl ?_
      refine wl_notu rfl rfl rfl rfl rfl ?_
      refine wl_notu rfl rfl rfl rfl rfl ?_
      refine wl_notu rfl rfl rfl rfl rfl ?_
      refine wl_not rfl rfl rfl rfl rfl rfl ?_
      refine wl_v (ov_pick_t rfl rfl) rfl rfl rfl ?_
      refine wl_nil ?_
      refine ce_then ?_
      refine cw_true rfl ?_
      refine cw_seq ?_
      refine cw_region ?_
      refine wl_v (ov_assign rfl) rfl rfl rfl ?_
      refine wl_nil ?_
      refine ce_then ?_
      refine cw_ret ?_
      refine ce_block_ret ?_
      refine ce_then_ret ?_
      refine ce_then_ret ?_
      refine ce_block_ret ?_
      refine ce_then_ret ?_
      refine ce_results (v := .int .i64 (-1)) (res1 rfl (rv_t rfl)) (fun w' hw => ?_)
      exact ⟨(by rw [oddV, if_neg (fun h => c18 (by rw [hW h.1]; exact ⟨(h.2 k (by omega)).1, (h.2 k (by omega)).2.1⟩))]), (Keep.nil.ss hw).to_new⟩
  ·
    refine wl_nil ?_
    refine ce_then ?_
    refine cw_seq ?_
    refine cw_false rfl ?_
    refine cw_exit ?_
    refine ce_then_exit ?_
    refine ce_then_exit ?_
    refine ce_hit ?_
    refine ce_then ?_
    refine cw_seq ?_
    refine cw_seq ?_
    refine cw_region ?_
    refine wl_v (ov_loadAgg (vs := [.int .i64 (N), .slice A (es.length) (c)]) tI25 (holds_blk (List.Mem.head _)) rfl some_lit rfl rfl) rfl rfl rfl ?_
    refine wl_r (or_call (fv := []) (vs := [.agg #[.int .i64 (N), .slice A (es.length) (c)]]) (cs := []) en13 rfl rfl (call_v (fun w hw => validGraphI_c w N A es.length c es ((holds_old oA) w hw) rfl lA (by first | assumption | omega | (simp; omega)) (by first | assumption | omega | (simp; omega))))) rfl rfl (kt_if rfl (fun c35 => ?_) (fun c35 => ?_))
    ·
      have hSP : SetP (N - 1) ss := fun i hi => by have h9 := hk2 i (by omega); rwa [hW c35] at h9
      refine wl_v (ov_not rfl) rfl rfl rfl ?_
      refine wl_nil ?_
      refine ce_then ?_
      refine cw_false rfl ?_
      refine cw_skip ?_
      refine ce_then ?_
      refine cw_seq ?_
      obtain ⟨m, rfl⟩ := Int.eq_ofNat_of_zero_le (show 0 ≤ N from c35.2.1)
      have hg : Gr m es := by have h9 := c35.gr; rwa [Int.toNat_natCast] at h9
      have hm : m ≤ 7 := by have h9 := c35.2.2; omega
      have hsl := SetP.len hSP (by omega)
      refine cw_region ?_
      refine wl_v (ov_loadAgg (vs := [.int .i64 (((m : Nat) : Int)), .slice A (es.length) (c)]) tI25 (holds_blk (List.Mem.head _)) rfl some_lit rfl rfl) rfl rfl rfl ?_
      refine wl_v (ov_move rfl) rfl rfl rfl ?_
      refine wl_r (or_call (fv := []) (vs := [.agg #[.int .i64 (((m : Nat) : Int)), .slice A (es.length) (c)], .slice A1 (ss.length) (c1)]) (cs := []) en48 rfl rfl (call_v (fun w hw => oddPartsI_c w m A es.length c es A1 ss.length c1 ss ((holds_old oA) w hw) rfl lA ((holds_old oA1) w hw) rfl lA1 (by first | assumption | omega | (simp; omega)) (by first | assumption | omega | (simp; omega)) (by first | assumption | omega | (simp; omega))))) rfl rfl (kt0 rfl ?_)
      refine wl_v (ov_assign rfl) rfl rfl rfl ?_
      refine wl_nil ?_
      refine ce_then ?_
      refine cw_ret ?_
      refine ce_results (v := .int .i64 (oddP m es ss)) (res1 rfl (rv_t rfl)) (fun w' hw => ?_)
      exact ⟨(by rw [oddV, if_pos ⟨c35, hSP⟩, Int.toNat_natCast]), (Keep.nil.ss hw).to_new⟩
    ·
      refine wl_v (ov_not rfl) rfl rfl rfl ?_
      refine wl_nil ?_
      refine ce_then ?_
      refine cw_true rfl ?_
      refine cw_seq ?_
      refine cw_region ?_
      refine wl_v (ov_assign rfl) rfl rfl rfl ?_
      refine wl_nil ?_
      refine ce_then ?_
      refine cw_ret ?_
      refine ce_then_ret ?_
      refine ce_results (v := .int .i64 (-1)) (res1 rfl (rv_t rfl)) (fun w' hw => ?_)
      exact ⟨(by rw [oddV, if_neg (fun h => c35 h.1)]), (Keep.nil.ss hw).to_new⟩
end Go.Proofs.Ythbfgkeoojghoaa.W14
