/- Walks of functions of the given program: each returns what its Lean function says and leaves the memory that was there as it was. Conditions: those of each theorem. -/
import Derived.Test.YtfjgfocjogfodaaSm
import Derived.Test.YtfjgfocjogfodaaProg
import Derived.Test.YtfjgfocjogfodaaPl
import Derived.Test.YtfjgfocjogfodaaPo
import Derived.Test.YtfjgfocjogfodaaPd
import Derived.Test.YtfjgfocjogfodaaPe
import Derived.Test.YtfjgfocjogfodaaPh
import Derived.Test.YtfjgfocjogfodaaPm
import Derived.Test.YtfjgfocjogfodaaPc
import Derived.Test.YtfjgfocjogfodaaPs
import Derived.Test.YtfjgfocjogfodaaPt
import Derived.Test.YtfjgfocjogfodaaPu
import Derived.Test.YtfjgfocjogfodaaPv
import Derived.Test.YtfjgfocjogfodaaPw
import Derived.Test.YtfjgfocjogfodaaT
import Derived.Test.YtfjgfocjogfodaaW17
import Derived.Test.YtfjgfocjogfodaaW20
import Derived.KernelRfl
namespace Go.Proofs.Ytfjgfocjogfodaa.W21
open Go.Sx Go.RowKit Go.Proofs.Ytfjgfocjogfodaa.T Go.Proofs.Ytfjgfocjogfodaa.W17 Go.Proofs.Ytfjgfocjogfodaa.W20
open Go.Plain
set_option linter.unusedVariables false
set_option maxRecDepth 100000 in
theorem idG_c (w : World) (m : Nat) (A : Option Addr) (n : Nat) (c : Nat) (es : List (Int × Int)) (hA : At w A (cells fE es)) (eA : es.length = n) (lA : n ≤ c) : Calls Try.prog 89 #[.agg #[.int .i64 (((m : Nat) : Int)), .slice A (n) (c)]] w (Ret fun rv w' => rv = .agg #[.int .i64 (((m : Nat) : Int)), .slice A (n) (c)] ∧ New w w' []) := by
  have oA := hA.atB
  subst eA
  refine fn_enter (args := [.agg #[.int .i64 (((m : Nat) : Int)), .slice A (es.length) (c)]]) Try.func89 rfl Try.ntmps89 rfl (SS.start w) ?_
  refine cw_seq ?_
  refine cw_region ?_
  refine wl_r (or_box rfl rfl) rfl rfl (kt1 rfl (fun g1 => ?_))
  refine wl_r (or_alloc tI25 rfl) rfl rfl (kt1 rfl (fun g2 => ?_))
  refine wl_nil ?_
  refine ce_then ?_
  refine cw_seq ?_
  refine cw_region ?_
  refine wl_v (ov_loadAgg (vs := [.int .i64 (((m : Nat) : Int)), .slice A (es.length) (c)]) tI25 (holds_blk (List.Mem.tail _ (List.Mem.head _))) rfl some_lit rfl rfl) rfl rfl rfl ?_
  refine wl_r0 (or_store_blk (vs := [.int .i64 (((m : Nat) : Int)), .slice A (es.length) (c)]) (cs' := [.int .i64 (((m : Nat) : Int)), .slice A (es.length) (c)]) (.head) tI25 rfl rfl rfl rfl (Nat.le_of_ble_eq_true rfl) rfl) rfl rfl (kn0 ?_)
  refine wl_nil ?_
  refine ce_then ?_
  refine cw_ret ?_
  refine ce_results (v := .agg #[.int .i64 (((m : Nat) : Int)), .slice A (es.length) (c)]) (res1 rfl (rv_c rfl tI25 rfl (List.Mem.head _))) (fun w' hw => ?_)
  exact ⟨rfl, (Keep.nil.ss hw).to_new⟩
set_option maxRecDepth 100000 in
theorem realizedI_c (w : World) (A : Option Addr) (n : Nat) (c : Nat) (xs : List (Int)) (A2 : Option Addr) (n2 : Nat) (c2 : Nat) (ys : List (Int)) (hA : At w A (cells fI xs)) (eA : xs.length = n) (lA : n ≤ c) (hA2 : At w A2 (cells fI ys)) (eA2 : ys.length = n2) (lA2 : n2 ≤ c2) (hs : xs.length ≤ 1048576 ∧ ys.length ≤ 1048576) : Calls Try.prog 87 #[.slice A (n) (c), .slice A2 (n2) (c2), .func (.func 89) #[] #[]] w (Ret fun rv w' => ∃ A3 k3 c3 A4 k4 c4, ((rel1 (relV (fun es => es) xs ys)).length ≤ k3 ∧ (rel2 (relV (fun es => es) xs ys)).length ≤ k4) ∧ rv = .tuple #[.agg #[.int .i64 (relN xs.length (relV (fun es => es) xs ys)), .slice A3 ((rel1 (relV (fun es => es) xs ys)).length) (k3)], .agg #[.int .i64 (relN xs.length (relV (fun es => es) xs ys)), .slice A4 ((rel2 (relV (fun es => es) xs ys)).length) (k4)], .bool ((relV (fun es => es) xs ys).isSome)] ∧ New w w' [row 43 2 A3 ((rel1 (relV (fun es => es) xs ys)).length) (c3) (cells fE (rel1 (relV (fun es => es) xs ys))), row 43 2 A4 ((rel2 (relV (fun es => es) xs ys)).length) (c4) (cells fE (rel2 (relV (fun es => es) xs ys)))]) := by
  have oA := hA.atB
  subst eA
  have oA2 := hA2.atB
  subst eA2
  refine fn_enter (args := [.slice A (xs.length) (c), .slice A2 (ys.length) (c2), .func (.func 89) #[] #[]]) Try.func87 rfl Try.ntmps87 rfl (SS.start w) ?_
  refine cw_seq ?_
  refine cw_region ?_
  refine wl_r (or_alloc tI25 rfl) rfl rfl (kt1 rfl (fun g6 => ?_))
  refine wl_r (or_alloc tI25 rfl) rfl rfl (kt1 rfl (fun g7 => ?_))
  refine wl_v (ov_assign rfl) rfl rfl rfl ?_
  refine wl_nil ?_
  refine ce_then ?_
  refine cw_seq ?_
  refine cw_seq ?_
  refine cw_region ?_
  refine wl_v (ov_move rfl) rfl rfl rfl ?_
  refine wl_r (or_call (fv := []) (vs := [.slice A (xs.length) (c), .int .i64 (5)]) (cs := []) en64 rfl rfl (call_v (fun w hw => listed_c w A xs.length c xs 5 ((holds_old oA) w hw) rfl lA (by first | assumption | omega | (simp; omega))))) rfl rfl (kt_if rfl (fun c14 => ?_) (fun c14 => ?_))
  ·
    refine wl_v (ov_not rfl) rfl rfl rfl ?_
    refine wl_v (ov_move rfl) rfl rfl rfl ?_
    refine wl_go rfl rfl ?_
    refine wl_v (ov_move rfl) rfl rfl rfl ?_
    refine wl_go rfl rfl ?_
    refine wl_r (or_call (fv := []) (vs := [.slice A2 (ys.length) (c2), .int .i64 (5)]) (cs := []) en64 rfl rfl (call_v (fun w hw => listed_c w A2 ys.length c2 ys 5 ((holds_old oA2) w hw) rfl lA2 (by first | assumption | omega | (simp; omega))))) rfl rfl (kt_if rfl (fun c18 => ?_) (fun c18 => ?_))
    ·
      refine wl_go rfl rfl ?_
      refine wl_v (ov_not rfl) rfl rfl rfl ?_
      refine wl_v (ov_pick_f rfl rfl) rfl rfl rfl ?_
      refine wl_v (ov_move rfl) rfl rfl rfl ?_
      refine wl_go rfl rfl ?_
      refine wl_v (ov_move rfl) rfl rfl rfl ?_
      refine wl_go rfl rfl ?_
      refine wl_v (ov_len (sliceI_spec sI31) rfl) rfl rfl rfl ?_
      refine wl_go rfl rfl ?_
      refine wl_v (ov_move rfl) rfl rfl rfl ?_
      refine wl_go rfl rfl ?_
      refine wl_v (ov_len (sliceI_spec sI31) rfl) rfl rfl rfl ?_
      refine wl_go rfl rfl ?_
      refine wl_if (ov_neq rfl rfl) rfl rfl rfl (fun c26 => ?_) (fun c26 => ?_)
      ·
        have hv : relV (fun es => es) xs ys = none := if_neg (fun h => c26 (by have := h.2.2.1; omega))
        refine wl_v (ov_pick_f rfl rfl) rfl rfl rfl ?_
        refine wl_nil ?_
        refine ce_then ?_
        refine cw_true rfl ?_
        refine cw_seq ?_
        refine ct_none fE 43 2 ?_
        refine ct_none fE 43 2 ?_
        refine cw_region ?_
        refine wl_v (ov_build (is := []) (vs := []) (v := .agg #[.int .i64 (0), .slice none (0) (0)]) rfl rfl (fun _ => by kernel_rfl)) rfl rfl rfl ?_
        refine wl_v (ov_build (is := []) (vs := []) (v := .agg #[.int .i64 (0), .slice none (0) (0)]) rfl rfl (fun _ => by kernel_rfl)) rfl rfl rfl ?_
        refine wl_r0 (or_store_blk (vs := [.int .i64 (0), .slice none (0) (0)]) (cs' := [.int .i64 (0), .slice none (0) (0)]) (.tail (.tail (.tail .head))) tI25 rfl rfl rfl rfl (Nat.le_of_ble_eq_true rfl) rfl) rfl rfl (kn0 ?_)
        refine wl_r0 (or_store_blk (vs := [.int .i64 (0), .slice none (0) (0)]) (cs' := [.int .i64 (0), .slice none (0) (0)]) (.tail (.tail (.tail .head))) tI25 rfl rfl rfl rfl (Nat.le_of_ble_eq_true rfl) rfl) rfl rfl (kn0 ?_)
        refine wl_v (ov_assign rfl) rfl rfl rfl ?_
        refine wl_nil ?_
        refine ce_then ?_
        refine cw_ret ?_
        refine ce_then_ret ?_
        refine ce_results (v := .tuple #[.agg #[.int .i64 (0), .slice none (0) (0)], .agg #[.int .i64 (0), .slice none (0) (0)], .bool false]) (res3 rfl (rv_c rfl tI25 rfl (List.Mem.tail _ (List.Mem.head _))) (rv_c rfl tI25 rfl (List.Mem.head _)) (rv_t rfl)) (fun w' hw => ?_)
        exact ⟨none, 0, 0, none, 0, 0, ⟨by rw [hv]; exact Nat.le_refl _, by rw [hv]; exact Nat.le_refl _⟩, (by rw [hv] <;> rfl), ((.consE (show row 43 2 none (0) (0) (cells fE ([])) = row 43 2 none ((rel1 (relV (fun es => es) xs ys)).length) (0) (cells fE (rel1 (relV (fun es => es) xs ys))) by rw [hv] <;> rfl) (.tail (.tail (.tail .head))) (.consE (show row 43 2 none (0) (0) (cells fE ([])) = row 43 2 none ((rel2 (relV (fun es => es) xs ys)).length) (0) (cells fE (rel2 (relV (fun es => es) xs ys))) by rw [hv] <;> rfl) (.tail (.tail .head)) (.nil)) : Keep _ _).ss hw).to_new⟩
      ·
        have hcond : Valid xs ∧ Valid ys ∧ xs.length = ys.length ∧ xs.length ≤ 5 := ⟨c14.1, c18.1, by omega, by have := c14.2; omega⟩
        have h5 := hcond.2.2.2
        have hxy := hcond.2.2.1
        refine wl_v (ov_pick_f rfl rfl) rfl rfl rfl ?_
        refine wl_nil ?_
        refine ce_then ?_
        refine cw_false rfl ?_
        refine cw_skip ?_
        refine ce_then ?_
        refine cw_seq ?_
        refine cw_seq ?_
        refine cw_region ?_
        refine wl_v (ov_move rfl) rfl rfl rfl ?_
        refine wl_r (or_call (fv := []) (vs := [.slice A (xs.length) (c)]) (cs := []) en22 rfl rfl (call_x3 (fun w hw => allReal_c w A xs.length c xs ((holds_old oA) w hw) rfl lA (by first | assumption | omega | (simp; omega))))) rfl rfl (kt3p rfl (fun A2_31 c2_31 hs_31 h_31 => ?_))
        refine ct_fact (nest_facts (List.Mem.tail _ (List.Mem.head _))) (fun hnf => ?_)
        have hgl : (gsOf xs.length hs_31).length = (allV xs).length := by rw [gsOf_length]; exact hnf.1
        have hal := allV_len xs
        refine wl_v (ov_len (sliceI_spec sI38) rfl) rfl rfl rfl ?_
        refine wl_v (ov_move rfl) rfl rfl rfl ?_
        refine wl_nil ?_
        refine ce_then ?_
        refine cw_block ?_
        refine cw_loop1 (fun (k : Nat) => [(1, .slice A2 (ys.length) (c2)), (2, .func (.func 89) #[] #[]), (6, elp (some ⟨g6, 0, none⟩) (0)), (7, elp (some ⟨g7, 0, none⟩) (0)), (31, .slice A2_31 ((allV xs).length) ((allV xs).length)), (32, .int .i64 ((((allV xs).length : Nat) : Int))), (33, .int .i64 (((k : Nat) : Int)))]) (fun (k : Nat) => [row 25 2 A2_31 ((allV xs).length) (c2_31) (cells fG (gsOf xs.length hs_31)), nest 43 2 fE hs_31 (allV xs), blk g7 [.int .i64 (0), .slice none (0) (0)] 25, blk g6 [.int .i64 (0), .slice none (0) (0)] 25]) (fun (k : Nat) => k ≤ (allV xs).length ∧ ∀ j, j < k → relF (fun es => es) ys ((allV xs).getD j []) = none) (fun (k : Nat) => (allV xs).length - k) 0 ⟨by omega, fun j hj => absurd hj (Nat.not_lt_zero _)⟩ (.cons rfl (.cons rfl (.cons rfl (.cons rfl (.cons rfl (.cons rfl (.cons (congrArg (fun z => some (Value.int .i64 z)) (show 0 = ((0 : Nat) : Int) by first | omega | rfl | (simp; done))) (.nil)))))))) (.cons (.head) (.cons (.head) (.cons (.head) (.cons (.head) (.nil))))) ?_
        intro R0 k hk hR0
        obtain ⟨hk1, hk2⟩ := hk
        refine cw_seq ?_
        refine cw_region ?_
        refine wl_if (ov_lss rfl rfl) rfl rfl rfl (fun c34 => ?_) (fun c34 => ?_)
        ·
          refine wl_nil ?_
          refine ce_then ?_
          refine cw_seq ?_
          refine cw_true rfl ?_
          refine cw_skip ?_
          refine ce_then ?_
          refine cw_seq ?_
          refine cw_block ?_
          refine cw_seq ?_
          refine cw_region ?_
          refine ct_fact (nest_facts (List.Mem.tail _ (List.Mem.head _))) (fun hnf35 => ?_)
          have hnl35 := hnf35.1
          refine wl_v (ov_index (k := k) (c := (allV xs).length) sI38 tI25 rfl rfl (some_holds (q := k * 2) (holds_row (List.Mem.head _)) (by rw [cells_length fG_len]; have hlt : k < (gsOf xs.length hs_31).length := (by omega); omega)) (show k < (allV xs).length from (by omega))) rfl rfl rfl ?_
          refine wl_v (ov_loadAgg (vs := [.int .i64 (((xs.length : Nat) : Int)), .slice ((hs_31.getD k (none, 0, 0)).1) (((allV xs).getD k []).length) ((hs_31.getD k (none, 0, 0)).2.2)]) tI25 (holds_row (List.Mem.head _)) rfl (some_holds (q := k * 2) (holds_row (List.Mem.head _)) (by rw [cells_length fG_len]; have hlt : k < (gsOf xs.length hs_31).length := (by omega); omega)) (elem_fG hnf35 (show k < (allV xs).length from (by omega))) rfl) rfl rfl rfl ?_
          refine wl_r (or_alloc tI25 rfl) rfl rfl (kt1 rfl (fun g10 => ?_))
          refine wl_r0 (or_store_blk (vs := [.int .i64 (((xs.length : Nat) : Int)), .slice ((hs_31.getD k (none, 0, 0)).1) (((allV xs).getD k []).length) ((hs_31.getD k (none, 0, 0)).2.2)]) (cs' := [.int .i64 (((xs.length : Nat) : Int)), .slice ((hs_31.getD k (none, 0, 0)).1) (((allV xs).getD k []).length) ((hs_31.getD k (none, 0, 0)).2.2)]) (.head) tI25 rfl rfl rfl rfl (Nat.le_of_ble_eq_true rfl) rfl) rfl rfl (kn0 ?_)
          refine wl_nil ?_
          refine ce_then ?_
          refine cw_seq ?_
          refine cw_region ?_
          refine wl_v (ov_move rfl) rfl rfl rfl ?_
          refine wl_v (ov_loadAgg (vs := [.int .i64 (((xs.length : Nat) : Int)), .slice ((hs_31.getD k (none, 0, 0)).1) (((allV xs).getD k []).length) ((hs_31.getD k (none, 0, 0)).2.2)]) tI25 (holds_blk (List.Mem.head _)) rfl some_lit rfl rfl) rfl rfl rfl ?_
          refine wl_r (or_call (fv := []) (vs := [.agg #[.int .i64 (((xs.length : Nat) : Int)), .slice ((hs_31.getD k (none, 0, 0)).1) (((allV xs).getD k []).length) ((hs_31.getD k (none, 0, 0)).2.2)]]) (cs := []) en89 rfl rfl (call_v (fun w hw => idG_c w xs.length ((hs_31.getD k (none, 0, 0)).1) (((allV xs).getD k []).length) ((hs_31.getD k (none, 0, 0)).2.2) ((allV xs).getD k []) ((holds_nest (List.Mem.tail _ (List.Mem.tail _ (List.Mem.head _))) (show k < (allV xs).length from (by omega))) w hw) rfl (hnf35.2 k (show k < (allV xs).length from (by omega))).2))) rfl rfl (kt0 rfl ?_)
          refine wl_v (ov_move rfl) rfl rfl rfl ?_
          refine wl_r (or_call (fv := []) (vs := [.agg #[.int .i64 (((xs.length : Nat) : Int)), .slice ((hs_31.getD k (none, 0, 0)).1) ((((allV xs).getD k []).length)) (((hs_31.getD k (none, 0, 0)).2.2))], .slice A2 (ys.length) (c2)]) (cs := []) en72 rfl rfl (call_x4 (fun w hw => factor_c w xs.length ((hs_31.getD k (none, 0, 0)).1) (((allV xs).getD k []).length) ((hs_31.getD k (none, 0, 0)).2.2) ((allV xs).getD k []) A2 ys.length c2 ys ((holds_nest (List.Mem.tail _ (List.Mem.tail _ (List.Mem.head _))) (show k < (allV xs).length from (by omega))) w hw) rfl ((hnf35.2 k (show k < (allV xs).length from (by omega))).2) ((holds_old oA2) w hw) rfl lA2 (allV_gr (by omega)) ⟨by omega, by omega⟩ (fun x hx => by have := c18.1.2 x hx; have := c18.1.1; omega)))) rfl rfl (kt4p rfl (fun N2_42 A2_42 k2_42 c2_42 h_42 => ?_))
          refine wl_v (ov_move rfl) rfl rfl rfl ?_
          refine wl_v (ov_extract rfl rfl) rfl rfl rfl ?_
          refine wl_v (ov_extract rfl rfl) rfl rfl rfl ?_
          refine wl_r (or_alloc tI25 rfl) rfl rfl (kt1 rfl (fun g11 => ?_))
          refine wl_r0 (or_store_blk (vs := [.int .i64 (N2_42), .slice A2_42 ((facV ((allV xs).getD k []) ys).1.length) (k2_42)]) (cs' := [.int .i64 (N2_42), .slice A2_42 ((facV ((allV xs).getD k []) ys).1.length) (k2_42)]) (.head) tI25 rfl rfl rfl rfl (Nat.le_of_ble_eq_true rfl) rfl) rfl rfl (kn0 ?_)
          refine wl_v (ov_assign rfl) rfl rfl rfl ?_
          refine wl_nil ?_
          refine ce_then ?_
          refine cw_seq ?_
          refine cw_region ?_
          refine wl_v (ov_move rfl) rfl rfl rfl ?_
          refine wl_nil ?_
          refine ce_then ?_
          refine ct_bool (i := 45) rfl (fun b45 => ?_) (fun b45 => ?_)
          ·
            have hfn : facN xs.length (facV (((allV xs).getD k [])) ys) = (xs.length : Int) := if_pos b45
            have hv : relV (fun es => es) xs ys = some ((allV xs).getD k [], (facV (((allV xs).getD k [])) ys).1) := (if_pos hcond).trans (found_at [] (i := k) (by omega) (if_pos b45) hk2)
            refine cw_true rfl ?_
            refine cw_seq ?_
            refine cw_draw mixO [] (.cons (.head) (.cons (.head) (.cons (.head) (.cons (.head) (.cons (.head) (.nil)))))) rfl ?_
            refine wg_take (i := 0) rfl (ov_loadAgg (vs := [.int .i64 (((xs.length : Nat) : Int)), .slice ((hs_31.getD k (none, 0, 0)).1) (((allV xs).getD k []).length) ((hs_31.getD k (none, 0, 0)).2.2)]) tI25 (holds_blk (List.Mem.tail _ (List.Mem.tail _ (List.Mem.head _)))) rfl some_lit rfl rfl) rfl rfl rfl (by kernel_rfl) (by kernel_rfl) (by kernel_rfl) (by kernel_rfl) ?_
            refine wg_take (i := 1) rfl (ov_loadAgg (vs := [.int .i64 (N2_42), .slice A2_42 ((facV ((allV xs).getD k []) ys).1.length) (k2_42)]) tI25 (holds_blk (List.Mem.head _)) rfl some_lit rfl rfl) rfl rfl rfl (by kernel_rfl) (by kernel_rfl) (by kernel_rfl) (by kernel_rfl) ?_
            refine wg_one (i := 2) (by kernel_rfl) ?_
            refine go_r0 rfl rfl rfl rfl (or_store_blk (vs := [.int .i64 (((xs.length : Nat) : Int)), .slice ((hs_31.getD k (none, 0, 0)).1) (((allV xs).getD k []).length) ((hs_31.getD k (none, 0, 0)).2.2)]) (cs' := [.int .i64 (((xs.length : Nat) : Int)), .slice ((hs_31.getD k (none, 0, 0)).1) (((allV xs).getD k []).length) ((hs_31.getD k (none, 0, 0)).2.2)]) (.tail (.tail (.tail (.tail (.tail (.tail .head)))))) tI25 rfl rfl rfl rfl (Nat.le_of_ble_eq_true rfl) rfl) (kn0 ?_)
            refine gk (.cons (.tail .head) (.cons (.tail .head) (.cons (.tail .head) (.cons (.tail .head) (.cons (.tail .head) (.nil)))))) ?_
            refine wg_one (i := 3) (by kernel_rfl) ?_
            refine go_r0 rfl rfl rfl rfl (or_store_blk (vs := [.int .i64 (N2_42), .slice A2_42 ((facV ((allV xs).getD k []) ys).1.length) (k2_42)]) (cs' := [.int .i64 (N2_42), .slice A2_42 ((facV ((allV xs).getD k []) ys).1.length) (k2_42)]) (.tail (.tail (.tail (.tail (.tail (.tail .head)))))) tI25 rfl rfl rfl rfl (Nat.le_of_ble_eq_true rfl) rfl) (kn0 ?_)
            refine gk (.cons (.tail (.tail .head)) (.cons (.tail (.tail .head)) (.cons (.tail (.tail .head)) (.cons (.tail (.tail .head)) (.cons (.tail (.tail .head)) (.nil)))))) ?_
            refine wg_takep (i := 4) rfl (ov_assign rfl) rfl rfl rfl (by kernel_rfl) (by kernel_rfl) (by kernel_rfl) rfl ?_
            refine wg_done (by kernel_rfl) ?_
            refine ce_then ?_
            refine cw_ret ?_
            refine ce_block_ret ?_
            refine ce_then_ret ?_
            refine ce_then_ret ?_
            refine ce_block_ret ?_
            refine ce_then_ret ?_
            refine ct_pull (i := k) (.cons (.tail (.tail (.tail (.tail (.tail (.tail .head)))))) (.cons (.head) (.cons (.head) (.cons (.head) (.cons (.head) (.cons (.head) (.cons (.head) (.nil)))))))) (by omega) (fun cp => ?_)
            refine ce_results (v := .tuple #[.agg #[.int .i64 (((xs.length : Nat) : Int)), .slice ((hs_31.getD k (none, 0, 0)).1) (((allV xs).getD k []).length) ((hs_31.getD k (none, 0, 0)).2.2)], .agg #[.int .i64 (N2_42), .slice A2_42 ((facV ((allV xs).getD k []) ys).1.length) (k2_42)], .bool true]) (res3 rfl (rv_c rfl tI25 rfl (List.Mem.tail _ (List.Mem.tail _ (List.Mem.head _)))) (rv_c rfl tI25 rfl (List.Mem.tail _ (List.Mem.head _))) (rv_t rfl)) (fun w' hw => ?_)
            exact ⟨(hs_31.getD k (none, 0, 0)).1, (hs_31.getD k (none, 0, 0)).2.2, cp, A2_42, k2_42, c2_42, ⟨by rw [hv]; exact (hnf.2 k (by omega)).2, by rw [hv]; exact h_42.1⟩, (by rw [hv, h_42.2, hfn] <;> rfl), ((.consE (show row 43 2 ((hs_31.getD k (none, 0, 0)).1) (((allV xs).getD k []).length) (cp) (cells fE ((allV xs).getD k [])) = row 43 2 ((hs_31.getD k (none, 0, 0)).1) ((rel1 (relV (fun es => es) xs ys)).length) (cp) (cells fE (rel1 (relV (fun es => es) xs ys))) by rw [hv] <;> rfl) (.head) (.consE (show row 43 2 A2_42 ((facV ((allV xs).getD k []) ys).1.length) (c2_42) (cells fE ((facV ((allV xs).getD k []) ys).1)) = row 43 2 A2_42 ((rel2 (relV (fun es => es) xs ys)).length) (c2_42) (cells fE (rel2 (relV (fun es => es) xs ys))) by rw [hv] <;> rfl) (.tail (.tail (.tail .head))) (.nil)) : Keep _ _).ss hw).to_new⟩
          ·
            refine cw_false rfl ?_
            refine cw_skip ?_
            refine ce_block ?_
            refine ce_then ?_
            refine cw_region ?_
            refine wl_v (ov_add (r := ((k + 1 : Nat) : Int)) rfl rfl rfl (by omega)) rfl rfl rfl ?_
            refine wl_v (ov_move rfl) rfl rfl rfl ?_
            refine wl_nil ?_
            exact fun ac_ w_ hs_ => hR0 (k + 1) ⟨by omega, fun j hj => by rcases Nat.lt_succ_iff_lt_or_eq.1 hj with h | rfl; exact hk2 j h; exact if_neg (by rw [b45]; decide)⟩ (by omega) ac_ w_ (hs_.weaken (.cons rfl (.cons rfl (.cons rfl (.cons rfl (.cons rfl (.cons rfl (.cons rfl (.nil)))))))) (.cons (.tail (.tail (.tail .head))) (.cons (.tail (.tail (.tail .head))) (.cons (.tail (.tail (.tail .head))) (.cons (.tail (.tail (.tail .head))) (.nil))))))
        ·
          have hv : relV (fun es => es) xs ys = none := (if_pos hcond).trans (found_no [] (fun j hj => hk2 j (by omega)))
          refine wl_nil ?_
          refine ce_then ?_
          refine cw_seq ?_
          refine cw_false rfl ?_
          refine cw_exit ?_
          refine ce_then_exit ?_
          refine ce_then_exit ?_
          refine ce_hit ?_
          refine ce_then ?_
          refine cw_seq ?_
          refine ct_none fE 43 2 ?_
          refine ct_none fE 43 2 ?_
          refine cw_region ?_
          refine wl_v (ov_build (is := []) (vs := []) (v := .agg #[.int .i64 (0), .slice none (0) (0)]) rfl rfl (fun _ => by kernel_rfl)) rfl rfl rfl ?_
          refine wl_v (ov_build (is := []) (vs := []) (v := .agg #[.int .i64 (0), .slice none (0) (0)]) rfl rfl (fun _ => by kernel_rfl)) rfl rfl rfl ?_
          refine wl_r0 (or_store_blk (vs := [.int .i64 (0), .slice none (0) (0)]) (cs' := [.int .i64 (0), .slice none (0) (0)]) (.tail (.tail (.tail (.tail (.tail .head))))) tI25 rfl rfl rfl rfl (Nat.le_of_ble_eq_true rfl) rfl) rfl rfl (kn0 ?_)
          refine wl_r0 (or_store_blk (vs := [.int .i64 (0), .slice none (0) (0)]) (cs' := [.int .i64 (0), .slice none (0) (0)]) (.tail (.tail (.tail (.tail (.tail .head))))) tI25 rfl rfl rfl rfl (Nat.le_of_ble_eq_true rfl) rfl) rfl rfl (kn0 ?_)
          refine wl_v (ov_assign rfl) rfl rfl rfl ?_
          refine wl_nil ?_
          refine ce_then ?_
          refine cw_ret ?_
          refine ce_results (v := .tuple #[.agg #[.int .i64 (0), .slice none (0) (0)], .agg #[.int .i64 (0), .slice none (0) (0)], .bool false]) (res3 rfl (rv_c rfl tI25 rfl (List.Mem.tail _ (List.Mem.head _))) (rv_c rfl tI25 rfl (List.Mem.head _)) (rv_t rfl)) (fun w' hw => ?_)
          exact ⟨none, 0, 0, none, 0, 0, ⟨by rw [hv]; exact Nat.le_refl _, by rw [hv]; exact Nat.le_refl _⟩, (by rw [hv] <;> rfl), ((.consE (show row 43 2 none (0) (0) (cells fE ([])) = row 43 2 none ((rel1 (relV (fun es => es) xs ys)).length) (0) (cells fE (rel1 (relV (fun es => es) xs ys))) by rw [hv] <;> rfl) (.tail (.tail (.tail .head))) (.consE (show row 43 2 none (0) (0) (cells fE ([])) = row 43 2 none ((rel2 (relV (fun es => es) xs ys)).length) (0) (cells fE (rel2 (relV (fun es => es) xs ys))) by rw [hv] <;> rfl) (.tail (.tail .head)) (.nil)) : Keep _ _).ss hw).to_new⟩
    ·
      have hv : relV (fun es => es) xs ys = none := if_neg (fun h => c18 ⟨h.2.1, by have := h.2.2.2; have := h.2.2.1; omega⟩)
      refine wl_go rfl rfl ?_
      refine wl_v (ov_not rfl) rfl rfl rfl ?_
      refine wl_v (ov_pick_f rfl rfl) rfl rfl rfl ?_
      refine wl_v (ov_move rfl) rfl rfl rfl ?_
      refine wl_not rfl rfl rfl rfl rfl rfl ?_
      refine wl_not rfl rfl rfl rfl rfl rfl ?_
      refine wl_not rfl rfl rfl rfl rfl rfl ?_
      refine wl_not rfl rfl rfl rfl rfl rfl ?_
      refine wl_not rfl rfl rfl rfl rfl rfl ?_
      refine wl_v (ov_pick_t rfl rfl) rfl rfl rfl ?_
      refine wl_nil ?_
      refine ce_then ?_
      refine cw_true rfl ?_
      refine cw_seq ?_
      refine ct_none fE 43 2 ?_
      refine ct_none fE 43 2 ?_
      refine cw_region ?_
      refine wl_v (ov_build (is := []) (vs := []) (v := .agg #[.int .i64 (0), .slice none (0) (0)]) rfl rfl (fun _ => by kernel_rfl)) rfl rfl rfl ?_
      refine wl_v (ov_build (is := []) (vs := []) (v := .agg #[.int .i64 (0), .slice none (0) (0)]) rfl rfl (fun _ => by kernel_rfl)) rfl rfl rfl ?_
      refine wl_r0 (or_store_blk (vs := [.int .i64 (0), .slice none (0) (0)]) (cs' := [.int .i64 (0), .slice none (0) (0)]) (.tail (.tail (.tail .head))) tI25 rfl rfl rfl rfl (Nat.le_of_ble_eq_true rfl) rfl) rfl rfl (kn0 ?_)
      refine wl_r0 (or_store_blk (vs := [.int .i64 (0), .slice none (0) (0)]) (cs' := [.int .i64 (0), .slice none (0) (0)]) (.tail (.tail (.tail .head))) tI25 rfl rfl rfl rfl (Nat.le_of_ble_eq_true rfl) rfl) rfl rfl (kn0 ?_)
      refine wl_v (ov_assign rfl) rfl rfl rfl ?_
      refine wl_nil ?_
      refine ce_then ?_
      refine cw_ret ?_
      refine ce_then_ret ?_
      refine ce_results (v := .tuple #[.agg #[.int .i64 (0), .slice none (0) (0)], .agg #[.int .i64 (0), .slice none (0) (0)], .bool false]) (res3 rfl (rv_c rfl tI25 rfl (List.Mem.tail _ (List.Mem.head _))) (rv_c rfl tI25 rfl (List.Mem.head _)) (rv_t rfl)) (fun w' hw => ?_)
      exact ⟨none, 0, 0, none, 0, 0, ⟨by rw [hv]; exact Nat.le_refl _, by rw [hv]; exact Nat.le_refl _⟩, (by rw [hv] <;> rfl), ((.consE (show row 43 2 none (0) (0) (cells fE ([])) = row 43 2 none ((rel1 (relV (fun es => es) xs ys)).length) (0) (cells fE (rel1 (relV (fun es => es) xs ys))) by rw [hv] <;> rfl) (.tail (.tail (.tail .head))) (.consE (show row 43 2 none (0) (0) (cells fE ([])) = row 43 2 none ((rel2 (relV (fun es => es) xs ys)).length) (0) (cells fE (rel2 (relV (fun es => es) xs ys))) by rw [hv] <;> rfl) (.tail (.tail .head)) (.nil)) : Keep _ _).ss hw).to_new⟩
  ·
    have hv : relV (fun es => es) xs ys = none := if_neg (fun h => c14 ⟨h.1, by have := h.2.2.2; omega⟩)
    refine wl_v (ov_not rfl) rfl rfl rfl ?_
    refine wl_v (ov_move rfl) rfl rfl rfl ?_
    refine wl_not rfl rfl rfl rfl rfl rfl ?_
    refine wl_not rfl rfl rfl rfl rfl rfl ?_
    refine wl_not rfl rfl rfl rfl rfl rfl ?_
    refine wl_v (ov_pick_t rfl rfl) rfl rfl rfl ?_
    refine wl_v (ov_move rfl) rfl rfl rfl ?_
    refine wl_not rfl rfl rfl rfl rfl rfl ?_
    refine wl_not rfl rfl rfl rfl rfl rfl ?_
    refine wl_not rfl rfl rfl rfl rfl rfl ?_
    refine wl_not rfl rfl rfl rfl rfl rfl ?_
    refine wl_not rfl rfl rfl rfl rfl rfl ?_
    refine wl_v (ov_pick_t rfl rfl) rfl rfl rfl ?_
    refine wl_nil ?_
    refine ce_then ?_
    refine cw_true rfl ?_
    refine cw_seq ?_
    refine ct_none fE 43 2 ?_
    refine ct_none fE 43 2 ?_
    refine cw_region ?_
    refine wl_v (ov_build (is := []) (vs := []) (v := .agg #[.int .i64 (0), .slice none (0) (0)]) rfl rfl (fun _ => by kernel_rfl)) rfl rfl rfl ?_
    refine wl_v (ov_build (is := []) (vs := []) (v := .agg #[.int .i64 (0), .slice none (0) (0)]) rfl rfl (fun _ => by kernel_rfl)) rfl rfl rfl ?_
    refine wl_r0 (or_store_blk (vs := [.int .i64 (0), .slice none (0) (0)]) (cs' := [.int .i64 (0), .slice none (0) (0)]) (.tail (.tail (.tail .head))) tI25 rfl rfl rfl rfl (Nat.le_of_ble_eq_true rfl) rfl) rfl rfl (kn0 ?_)
    refine wl_r0 (or_store_blk (vs := [.int .i64 (0), .slice none (0) (0)]) (cs' := [.int .i64 (0), .slice none (0) (0)]) (.tail (.tail (.tail .head))) tI25 rfl rfl rfl rfl (Nat.le_of_ble_eq_true rfl) rfl) rfl rfl (kn0 ?_)
    refine wl_v (ov_assign rfl) rfl rfl rfl ?_
    refine wl_nil ?_
    refine ce_then ?_
    refine cw_ret ?_
    refine ce_then_ret ?_
    refine ce_results (v := .tuple #[.agg #[.int .i64 (0), .slice none (0) (0)], .agg #[.int .i64 (0), .slice none (0) (0)], .bool false]) (res3 rfl (rv_c rfl tI25 rfl (List.Mem.tail _ (List.Mem.head _))) (rv_c rfl tI25 rfl (List.Mem.head _)) (rv_t rfl)) (fun w' hw => ?_)
    exact ⟨none, 0, 0, none, 0, 0, ⟨by rw [hv]; exact Nat.le_refl _, by rw [hv]; exact Nat.le_refl _⟩, (by rw [hv] <;> rfl), ((.consE (show row 43 2 none (0) (0) (cells fE ([])) = row 43 2 none ((rel1 (relV (fun es => es) xs ys)).length) (0) (cells fE (rel1 (relV (fun es => es) xs ys))) by rw [hv] <;> rfl) (.tail (.tail (.tail .head))) (.consE (show row 43 2 none (0) (0) (cells fE ([])) = row 43 2 none ((rel2 (relV (fun es => es) xs ys)).length) (0) (cells fE (rel2 (relV (fun es => es) xs ys))) by rw [hv] <;> rfl) (.tail (.tail .head)) (.nil)) : Keep _ _).ss hw).to_new⟩
set_option maxRecDepth 100000 in
theorem FacRealI_c (w : World) (A : Option Addr) (n : Nat) (c : Nat) (xs : List (Int)) (A2 : Option Addr) (n2 : Nat) (c2 : Nat) (ys : List (Int)) (hA : At w A (cells fI xs)) (eA : xs.length = n) (lA : n ≤ c) (hA2 : At w A2 (cells fI ys)) (eA2 : ys.length = n2) (lA2 : n2 ≤ c2) (hs : xs.length ≤ 1048576 ∧ ys.length ≤ 1048576) : Calls Try.prog 38 #[.slice A (n) (c), .slice A2 (n2) (c2)] w (Ret fun rv w' => ∃ A3 k3 c3 A4 k4 c4, ((rel1 (relV (fun es => es) xs ys)).length ≤ k3 ∧ (rel2 (relV (fun es => es) xs ys)).length ≤ k4) ∧ rv = .tuple #[.agg #[.int .i64 (relN xs.length (relV (fun es => es) xs ys)), .slice A3 ((rel1 (relV (fun es => es) xs ys)).length) (k3)], .agg #[.int .i64 (relN xs.length (relV (fun es => es) xs ys)), .slice A4 ((rel2 (relV (fun es => es) xs ys)).length) (k4)], .bool ((relV (fun es => es) xs ys).isSome)] ∧ New w w' [row 43 2 A3 ((rel1 (relV (fun es => es) xs ys)).length) (c3) (cells fE (rel1 (relV (fun es => es) xs ys))), row 43 2 A4 ((rel2 (relV (fun es => es) xs ys)).length) (c4) (cells fE (rel2 (relV (fun es => es) xs ys)))]) := by
  have oA := hA.atB
  subst eA
  have oA2 := hA2.atB
  subst eA2
  refine fn_enter (args := [.slice A (xs.length) (c), .slice A2 (ys.length) (c2)]) Try.func38 rfl Try.ntmps38 rfl (SS.start w) ?_
  refine cw_seq ?_
  refine cw_region ?_
  refine wl_r (or_alloc tI25 rfl) rfl rfl (kt1 rfl (fun g4 => ?_))
  refine wl_r (or_alloc tI25 rfl) rfl rfl (kt1 rfl (fun g5 => ?_))
  refine wl_v (ov_assign rfl) rfl rfl rfl ?_
  refine wl_nil ?_
  refine ce_then ?_
  refine cw_seq ?_
  refine cw_region ?_
  refine wl_v (ov_move rfl) rfl rfl rfl ?_
  refine wl_v (ov_move rfl) rfl rfl rfl ?_
  refine wl_r (or_call (fv := []) (vs := [.slice A (xs.length) (c), .slice A2 (ys.length) (c2), .func (.func 89) #[] #[]]) (cs := []) en87 rfl rfl (call_x6 (fun w hw => realizedI_c w A xs.length c xs A2 ys.length c2 ys ((holds_old oA) w hw) rfl lA ((holds_old oA2) w hw) rfl lA2 (by first | assumption | omega | (simp; omega))))) rfl rfl (kt6p rfl (fun A3_9 k3_9 c3_9 A4_9 k4_9 c4_9 h_9 => ?_))
  refine wl_v (ov_extract rfl rfl) rfl rfl rfl ?_
  refine wl_v (ov_extract rfl rfl) rfl rfl rfl ?_
  refine wl_v (ov_extract rfl rfl) rfl rfl rfl ?_
  refine wl_r0 (or_store_blk (vs := [.int .i64 (relN xs.length (relV (fun es => es) xs ys)), .slice A3_9 ((rel1 (relV (fun es => es) xs ys)).length) (k3_9)]) (cs' := [.int .i64 (relN xs.length (relV (fun es => es) xs ys)), .slice A3_9 ((rel1 (relV (fun es => es) xs ys)).length) (k3_9)]) (.tail (.tail (.tail .head))) tI25 rfl rfl rfl rfl (Nat.le_of_ble_eq_true rfl) rfl) rfl rfl (kn0 ?_)
  refine wl_r0 (or_store_blk (vs := [.int .i64 (relN xs.length (relV (fun es => es) xs ys)), .slice A4_9 ((rel2 (relV (fun es => es) xs ys)).length) (k4_9)]) (cs' := [.int .i64 (relN xs.length (relV (fun es => es) xs ys)), .slice A4_9 ((rel2 (relV (fun es => es) xs ys)).length) (k4_9)]) (.tail (.tail (.tail .head))) tI25 rfl rfl rfl rfl (Nat.le_of_ble_eq_true rfl) rfl) rfl rfl (kn0 ?_)
  refine wl_v (ov_assign rfl) rfl rfl rfl ?_
  refine wl_nil ?_
  refine ce_then ?_
  refine cw_ret ?_
  refine ce_results (v := .tuple #[.agg #[.int .i64 (relN xs.length (relV (fun es => es) xs ys)), .slice A3_9 ((rel1 (relV (fun es => es) xs ys)).length) (k3_9)], .agg #[.int .i64 (relN xs.length (relV (fun es => es) xs ys)), .slice A4_9 ((rel2 (relV (fun es => es) xs ys)).length) (k4_9)], .bool ((relV (fun es => es) xs ys).isSome)]) (res3 rfl (rv_c rfl tI25 rfl (List.Mem.tail _ (List.Mem.head _))) (rv_c rfl tI25 rfl (List.Mem.head _)) (rv_t rfl)) (fun w' hw => ?_)
  exact ⟨A3_9, k3_9, c3_9, A4_9, k4_9, c4_9, h_9, rfl, ((.cons (.tail (.tail .head)) (.cons (.tail (.tail .head)) (.nil)) : Keep _ _).ss hw).to_new⟩
end Go.Proofs.Ytfjgfocjogfodaa.W21
