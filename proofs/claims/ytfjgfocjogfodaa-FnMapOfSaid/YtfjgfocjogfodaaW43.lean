/- Walks of functions of the given program: each returns what its Lean function says and leaves the memory that was there as it was. Conditions: those of each theorem. -/
import Derived.Test.YtfjgfocjogfodaaSm
import Derived.Test.YtfjgfocjogfodaaProg
import Derived.Test.YtfjgfocjogfodaaPl
import Derived.Test.YtfjgfocjogfodaaPo
import Derived.Test.YtfjgfocjogfodaaPd
import Derived.Test.YtfjgfocjogfodaaPe
import Derived.Test.YtfjgfocjogfodaaPh
import Derived.Test.YtfjgfocjogfodaaPm
import Derived.Test.YtfjgfocjogfodaaPc
import Derived.Test.YtfjgfocjogfodaaPs
import Derived.Test.YtfjgfocjogfodaaPt
import Derived.Test.YtfjgfocjogfodaaPu
import Derived.Test.YtfjgfocjogfodaaPv
import Derived.Test.YtfjgfocjogfodaaPw
import Derived.Test.YtfjgfocjogfodaaPx
import Derived.Test.YtfjgfocjogfodaaPy
import Derived.Test.YtfjgfocjogfodaaPz
import Derived.Test.YtfjgfocjogfodaaPr
import Derived.Test.YtfjgfocjogfodaaT
import Derived.Test.YtfjgfocjogfodaaW5
import Derived.Test.YtfjgfocjogfodaaW11
import Derived.Test.YtfjgfocjogfodaaW24
import Derived.Test.YtfjgfocjogfodaaW37
import Derived.KernelRfl
namespace Go.Proofs.Ytfjgfocjogfodaa.W43
open Go.Sx Go.RowKit Go.Proofs.Ytfjgfocjogfodaa.T Go.Proofs.Ytfjgfocjogfodaa.W5 Go.Proofs.Ytfjgfocjogfodaa.W11 Go.Proofs.Ytfjgfocjogfodaa.W24 Go.Proofs.Ytfjgfocjogfodaa.W37
open Go.Plain
set_option linter.unusedVariables false
set_option maxRecDepth 100000 in
theorem dropEdge_c (w : World) (N : Int) (A : Option Addr) (n : Nat) (c : Nat) (es : List (Int × Int)) (a : Int) (b : Int) (hA : At w A (cells fE es)) (eA : es.length = n) (lA : n ≤ c) (hs : es.length ≤ 1000) : Calls Try.prog 144 #[.agg #[.int .i64 (N), .slice A (n) (c)], .int .i64 (a), .int .i64 (b)] w (Ret fun rv w' => ∃ A2 c2 fs, (fs.length ≤ c2 ∧ fs.length ≤ es.length) ∧ rv = .agg #[.int .i64 (N), .slice A2 (fs.length) (c2)] ∧ New w w' [row 43 2 A2 (fs.length) (c2) (cells fE fs)]) := by
  have oA := hA.atB
  subst eA
  refine fn_enter (args := [.agg #[.int .i64 (N), .slice A (es.length) (c)], .int .i64 (a), .int .i64 (b)]) Try.func144 rfl Try.ntmps144 rfl (SS.start w) ?_
  refine cw_seq ?_
  refine cw_region ?_
  refine wl_r (or_box rfl rfl) rfl rfl (kt1 rfl (fun g3 => ?_))
  refine wl_r (or_alloc tI25 rfl) rfl rfl (kt1 rfl (fun g6 => ?_))
  refine wl_nil ?_
  refine ce_then ?_
  refine cw_seq ?_
  refine cw_region ?_
  refine wl_v (ov_fieldAddr fI25_0 some_lit rfl) rfl rfl rfl ?_
  refine wl_v (ov_load tI3 (holds_blk (List.Mem.tail _ (List.Mem.head _))) rfl rfl) rfl rfl rfl ?_
  refine wl_r (or_buildSlice (e := 43) (size := 2) (is := []) (vs := []) (cs := cells fE ([])) rfl rfl rfl (by decide) (fun _ => by kernel_rfl)) rfl rfl (kt1 rfl (fun g12 => ?_))
  refine wl_v (ov_build (is := [0, 1]) (vs := [.int .i64 (N), .slice (some ⟨g12, 0, none⟩) (0) (0)]) (v := .agg #[.int .i64 (N), .slice (some ⟨g12, 0, none⟩) (0) (0)]) rfl rfl (fun _ => by kernel_rfl)) rfl rfl rfl ?_
  refine wl_r (or_alloc tI25 rfl) rfl rfl (kt1 rfl (fun g7 => ?_))
  refine wl_r0 (or_store_blk (vs := [.int .i64 (N), .slice (some ⟨g12, 0, none⟩) (0) (0)]) (cs' := [.int .i64 (N), .slice (some ⟨g12, 0, none⟩) (0) (0)]) (.head) tI25 rfl rfl rfl rfl (Nat.le_of_ble_eq_true rfl) rfl) rfl rfl (kn0 ?_)
  refine wl_nil ?_
  refine ce_then ?_
  refine cw_seq ?_
  refine cw_seq ?_
  refine cw_region ?_
  refine wl_v (ov_assign rfl) rfl rfl rfl ?_
  refine wl_nil ?_
  refine ce_then ?_
  refine cw_block ?_
  refine cw_loop4 (fun (k : Nat) (A3 : Option Addr) (c3 : Nat) (fs : List Ed) => [(1, .int .i64 (a)), (2, .int .i64 (b)), (3, elp (some ⟨g3, 0, none⟩) (0)), (6, elp (some ⟨g6, 0, none⟩) (0)), (7, elp (some ⟨g7, 0, none⟩) (0)), (8, .int .i64 (((k : Nat) : Int)))]) (fun (k : Nat) (A3 : Option Addr) (c3 : Nat) (fs : List Ed) => [blk g7 [.int .i64 (N), .slice A3 (fs.length) (c3)] 25, row 43 2 A3 (fs.length) (c3) (cells fE fs), blk g6 [.int .i64 (0), .slice none (0) (0)] 25, blk g3 [.int .i64 (N), .slice A (es.length) (c)] 25]) (fun (k : Nat) (A3 : Option Addr) (c3 : Nat) (fs : List Ed) => k ≤ es.length ∧ fs.length ≤ c3 ∧ fs.length ≤ k) (fun (k : Nat) (A3 : Option Addr) (c3 : Nat) (fs : List Ed) => es.length - k) 0 (some ⟨g12, 0, none⟩) 0 ([]) ⟨by omega, Nat.le_refl _, by decide⟩ (.cons rfl (.cons rfl (.cons rfl (.cons rfl (.cons rfl (.cons (congrArg (fun z => some (Value.int .i64 z)) (show 0 = ((0 : Nat) : Int) by first | omega | rfl | (simp; done))) (.nil))))))) (.consE (show blk g7 [.int .i64 (N), .slice (some ⟨g12, 0, none⟩) (0) (0)] 25 = blk g7 [.int .i64 (N), .slice (some ⟨g12, 0, none⟩) (([]).length) (0)] 25 by rfl) (.head) (.consE (show row 43 2 (some ⟨g12, 0, none⟩) (0) (0) (cells fE ([])) = row 43 2 (some ⟨g12, 0, none⟩) (([]).length) (0) (cells fE ([])) by rfl) (.head) (.cons (.head) (.cons (.head) (.nil))))) ?_
  intro R0 k A3 c3 fs hk hR0
  obtain ⟨hk1, hk2, hk3⟩ := hk
  refine cw_seq ?_
  refine cw_seq ?_
  refine cw_region ?_
  refine wl_v (ov_move rfl) rfl rfl rfl ?_
  refine wl_v (ov_fieldAddr fI25_1 some_lit rfl) rfl rfl rfl ?_
  refine wl_v (ov_load tI23 (holds_blk (List.Mem.tail _ (List.Mem.tail _ (List.Mem.tail _ (List.Mem.head _))))) rfl rfl) rfl rfl rfl ?_
  refine wl_v (ov_len (sliceI_spec sI23) rfl) rfl rfl rfl ?_
  refine wl_if (ov_lss rfl rfl) rfl rfl rfl (fun c18 => ?_) (fun c18 => ?_)
  ·
    refine wl_nil ?_
    refine ce_then ?_
    refine cw_true rfl ?_
    refine cw_skip ?_
    refine ce_then ?_
    refine cw_seq ?_
    refine cw_block ?_
    refine cw_seq ?_
    refine cw_region ?_
    refine wl_v (ov_fieldAddr fI25_1 some_lit rfl) rfl rfl rfl ?_
    refine wl_v (ov_load tI23 (holds_blk (List.Mem.tail _ (List.Mem.tail _ (List.Mem.tail _ (List.Mem.head _))))) rfl rfl) rfl rfl rfl ?_
    refine wl_v (ov_move rfl) rfl rfl rfl ?_
    refine wl_v (ov_index (k := k) (c := c) sI23 tI43 rfl rfl (some_holds (q := k * 2) (holds_old oA) (by rw [cells_length fE_len]; have hlt : k < es.length := (by omega); omega)) (show k < es.length from (by omega))) rfl rfl rfl ?_
    refine wl_v (ov_loadAgg (vs := [.int .i64 ((es.getD k (0, 0)).1), .int .i64 ((es.getD k (0, 0)).2)]) tI43 (holds_old oA) rfl (some_holds (q := k * 2) (holds_old oA) (by rw [cells_length fE_len]; have hlt : k < es.length := (by omega); omega)) (cells_elem fE_len (0, 0) (show k < es.length from (by omega))) rfl) rfl rfl rfl ?_
    refine wl_r (or_alloc tI43 rfl) rfl rfl (kt1 rfl (fun g9 => ?_))
    refine wl_r0 (or_store_blk (vs := [.int .i64 ((es.getD k (0, 0)).1), .int .i64 ((es.getD k (0, 0)).2)]) (cs' := [.int .i64 ((es.getD k (0, 0)).1), .int .i64 ((es.getD k (0, 0)).2)]) (.head) tI43 rfl rfl rfl rfl (Nat.le_of_ble_eq_true rfl) rfl) rfl rfl (kn0 ?_)
    refine wl_nil ?_
    refine ce_then ?_
    refine cw_seq ?_
    refine cw_region ?_
    refine wl_v (ov_fieldAddr fI43_0 some_lit rfl) rfl rfl rfl ?_
    refine wl_v (ov_load tI3 (holds_blk (List.Mem.head _)) rfl rfl) rfl rfl rfl ?_
    refine wl_v (ov_move rfl) rfl rfl rfl ?_
    refine wl_v (ov_move rfl) rfl rfl rfl ?_
    refine wl_v (ov_min (r := min a b) rfl rfl (by first | omega | (split <;> omega))) rfl rfl rfl ?_
    refine wl_if (ov_neq rfl rfl) rfl rfl rfl (fun c31 => ?_) (fun c31 => ?_)
    ·
      refine wl_v (ov_move rfl) rfl rfl rfl ?_
      refine wl_not rfl rfl rfl rfl rfl rfl ?_
      refine wl_not rfl rfl rfl rfl rfl rfl ?_
      refine wl_not rfl rfl rfl rfl rfl rfl ?_
      refine wl_not rfl rfl rfl rfl rfl rfl ?_
      refine wl_not rfl rfl rfl rfl rfl rfl ?_
      refine wl_not rfl rfl rfl rfl rfl rfl ?_
      refine wl_v (ov_pick_t rfl rfl) rfl rfl rfl ?_
      refine wl_nil ?_
      refine ce_then ?_
      refine cw_true rfl ?_
      refine cw_region ?_
      refine wl_v (ov_fieldAddr fI25_1 some_lit rfl) rfl rfl rfl ?_
      refine wl_v (ov_load tI23 (holds_blk (List.Mem.tail _ (List.Mem.head _))) rfl rfl) rfl rfl rfl ?_
      refine wl_v (ov_loadAgg (vs := [.int .i64 ((es.getD k (0, 0)).1), .int .i64 ((es.getD k (0, 0)).2)]) tI43 (holds_blk (List.Mem.head _)) rfl some_lit rfl rfl) rfl rfl rfl ?_
      refine wl_r (or_buildSlice (e := 43) (size := 2) (is := [0]) (vs := [.agg #[.int .i64 ((es.getD k (0, 0)).1), .int .i64 ((es.getD k (0, 0)).2)]]) (cs := cells fE ([((es.getD k (0, 0)).1, (es.getD k (0, 0)).2)])) rfl rfl rfl (by decide) (fun _ => by kernel_rfl)) rfl rfl (kt1 rfl (fun g43 => ?_))
      refine wl_r (or_append (c2 := 1) sI23 tI43 rfl (by decide) rfl rfl (.tail (.tail (.tail .head))) (holds_row (List.Mem.head _)) (by rw [cells_length fE_len]; try simp) (one_cells fE_one _) cells_append (by omega) (by omega)) rfl rfl (kt2p rfl (fun A44 c44 h44 => ?_))
      refine wl_v (ov_fieldAddr fI25_1 some_lit rfl) rfl rfl rfl ?_
      refine wl_r0 (or_store_blk (vs := [.slice A44 (fs.length + 1) (c44)]) (cs' := [.int .i64 (N), .slice A44 (fs.length + 1) (c44)]) (.tail (.tail (.tail .head))) tI23 rfl rfl rfl rfl (Nat.le_of_ble_eq_true rfl) rfl) rfl rfl (kn0 ?_)
      refine wl_nil ?_
      refine ce_block ?_
      refine ce_then ?_
      refine cw_region ?_
      refine wl_v (ov_move rfl) rfl rfl rfl ?_
      refine wl_v (ov_add (r := ((k + 1 : Nat) : Int)) rfl rfl rfl (by omega)) rfl rfl rfl ?_
      refine wl_v (ov_assign rfl) rfl rfl rfl ?_
      refine wl_nil ?_
      exact fun ac_ w_ hs_ => hR0 (k + 1) A44 c44 (fs ++ ([((es.getD k (0, 0)).1, (es.getD k (0, 0)).2)])) ⟨by omega, by rw [List.length_append]; exact h44, by rw [List.length_append]; exact Nat.add_le_add_right hk3 1⟩ (by omega) ac_ w_ (hs_.weaken (.cons rfl (.cons rfl (.cons rfl (.cons rfl (.cons rfl (.cons rfl (.nil))))))) (.consE (show blk g7 [.int .i64 (N), .slice A44 (fs.length + 1) (c44)] 25 = blk g7 [.int .i64 (N), .slice A44 ((fs ++ ([((es.getD k (0, 0)).1, (es.getD k (0, 0)).2)])).length) (c44)] 25 by rw [List.length_append]; rfl) (.head) (.consE (show row 43 2 A44 (fs.length + 1) (c44) (cells fE (fs ++ ([((es.getD k (0, 0)).1, (es.getD k (0, 0)).2)]))) = row 43 2 A44 ((fs ++ ([((es.getD k (0, 0)).1, (es.getD k (0, 0)).2)])).length) (c44) (cells fE (fs ++ ([((es.getD k (0, 0)).1, (es.getD k (0, 0)).2)]))) by rw [List.length_append]; rfl) (.head) (.cons (.tail (.tail .head)) (.cons (.tail (.tail .head)) (.nil))))))
    ·
      refine wl_v (ov_move rfl) rfl rfl rfl ?_
      refine wl_go rfl rfl ?_
      refine wl_v (ov_fieldAddr fI43_1 some_lit rfl) rfl rfl rfl ?_
      refine wl_go rfl rfl ?_
      refine wl_v (ov_load tI3 (holds_blk (List.Mem.head _)) rfl rfl) rfl rfl rfl ?_
      refine wl_go rfl rfl ?_
      refine wl_v (ov_move rfl) rfl rfl rfl ?_
      refine wl_go rfl rfl ?_
      refine wl_v (ov_move rfl) rfl rfl rfl ?_
      refine wl_go rfl rfl ?_
      refine wl_v (ov_max (r := max a b) rfl rfl (by first | omega | (split <;> omega))) rfl rfl rfl ?_
      refine wl_go rfl rfl ?_
      refine wl_if (ov_neq rfl rfl) rfl rfl rfl (fun c38 => ?_) (fun c38 => ?_)
      ·
        refine wl_v (ov_pick_f rfl rfl) rfl rfl rfl ?_
        refine wl_nil ?_
        refine ce_then ?_
        refine cw_true rfl ?_
        refine cw_region ?_
        refine wl_v (ov_fieldAddr fI25_1 some_lit rfl) rfl rfl rfl ?_
        refine wl_v (ov_load tI23 (holds_blk (List.Mem.tail _ (List.Mem.head _))) rfl rfl) rfl rfl rfl ?_
        refine wl_v (ov_loadAgg (vs := [.int .i64 ((es.getD k (0, 0)).1), .int .i64 ((es.getD k (0, 0)).2)]) tI43 (holds_blk (List.Mem.head _)) rfl some_lit rfl rfl) rfl rfl rfl ?_
        refine wl_r (or_buildSlice (e := 43) (size := 2) (is := [0]) (vs := [.agg #[.int .i64 ((es.getD k (0, 0)).1), .int .i64 ((es.getD k (0, 0)).2)]]) (cs := cells fE ([((es.getD k (0, 0)).1, (es.getD k (0, 0)).2)])) rfl rfl rfl (by decide) (fun _ => by kernel_rfl)) rfl rfl (kt1 rfl (fun g43 => ?_))
        refine wl_r (or_append (c2 := 1) sI23 tI43 rfl (by decide) rfl rfl (.tail (.tail (.tail .head))) (holds_row (List.Mem.head _)) (by rw [cells_length fE_len]; try simp) (one_cells fE_one _) cells_append (by omega) (by omega)) rfl rfl (kt2p rfl (fun A44 c44 h44 => ?_))
        refine wl_v (ov_fieldAddr fI25_1 some_lit rfl) rfl rfl rfl ?_
        refine wl_r0 (or_store_blk (vs := [.slice A44 (fs.length + 1) (c44)]) (cs' := [.int .i64 (N), .slice A44 (fs.length + 1) (c44)]) (.tail (.tail (.tail .head))) tI23 rfl rfl rfl rfl (Nat.le_of_ble_eq_true rfl) rfl) rfl rfl (kn0 ?_)
        refine wl_nil ?_
        refine ce_block ?_
        refine ce_then ?_
        refine cw_region ?_
        refine wl_v (ov_move rfl) rfl rfl rfl ?_
        refine wl_v (ov_add (r := ((k + 1 : Nat) : Int)) rfl rfl rfl (by omega)) rfl rfl rfl ?_
        refine wl_v (ov_assign rfl) rfl rfl rfl ?_
        refine wl_nil ?_
        exact fun ac_ w_ hs_ => hR0 (k + 1) A44 c44 (fs ++ ([((es.getD k (0, 0)).1, (es.getD k (0, 0)).2)])) ⟨by omega, by rw [List.length_append]; exact h44, by rw [List.length_append]; exact Nat.add_le_add_right hk3 1⟩ (by omega) ac_ w_ (hs_.weaken (.cons rfl (.cons rfl (.cons rfl (.cons rfl (.cons rfl (.cons rfl (.nil))))))) (.consE (show blk g7 [.int .i64 (N), .slice A44 (fs.length + 1) (c44)] 25 = blk g7 [.int .i64 (N), .slice A44 ((fs ++ ([((es.getD k (0, 0)).1, (es.getD k (0, 0)).2)])).length) (c44)] 25 by rw [List.length_append]; rfl) (.head) (.consE (show row 43 2 A44 (fs.length + 1) (c44) (cells fE (fs ++ ([((es.getD k (0, 0)).1, (es.getD k (0, 0)).2)]))) = row 43 2 A44 ((fs ++ ([((es.getD k (0, 0)).1, (es.getD k (0, 0)).2)])).length) (c44) (cells fE (fs ++ ([((es.getD k (0, 0)).1, (es.getD k (0, 0)).2)]))) by rw [List.length_append]; rfl) (.head) (.cons (.tail (.tail .head)) (.cons (.tail (.tail .head)) (.nil))))))
      ·
        refine wl_v (ov_pick_f rfl rfl) rfl rfl rfl ?_
        refine wl_nil ?_
        refine ce_then ?_
        refine cw_false rfl ?_
        refine cw_skip ?_
        refine ce_block ?_
        refine ce_then ?_
        refine cw_region ?_
        refine wl_v (ov_move rfl) rfl rfl rfl ?_
        refine wl_v (ov_add (r := ((k + 1 : Nat) : Int)) rfl rfl rfl (by omega)) rfl rfl rfl ?_
        refine wl_v (ov_assign rfl) rfl rfl rfl ?_
        refine wl_nil ?_
        exact fun ac_ w_ hs_ => hR0 (k + 1) A3 c3 fs ⟨by omega, hk2, by omega⟩ (by omega) ac_ w_ (hs_.weaken (.cons rfl (.cons rfl (.cons rfl (.cons rfl (.cons rfl (.cons rfl (.nil))))))) (.cons (.tail .head) (.cons (.tail .head) (.cons (.tail .head) (.cons (.tail .head) (.nil))))))
  ·
    refine wl_nil ?_
    refine ce_then ?_
    refine cw_false rfl ?_
    refine cw_exit ?_
    refine ce_then_exit ?_
    refine ce_then_exit ?_
    refine ce_hit ?_
    refine ce_then ?_
    refine cw_seq ?_
    refine cw_region ?_
    refine wl_v (ov_loadAgg (vs := [.int .i64 (N), .slice A3 (fs.length) (c3)]) tI25 (holds_blk (List.Mem.head _)) rfl some_lit rfl rfl) rfl rfl rfl ?_
    refine wl_r0 (or_store_blk (vs := [.int .i64 (N), .slice A3 (fs.length) (c3)]) (cs' := [.int .i64 (N), .slice A3 (fs.length) (c3)]) (.tail (.tail .head)) tI25 rfl rfl rfl rfl (Nat.le_of_ble_eq_true rfl) rfl) rfl rfl (kn0 ?_)
    refine wl_nil ?_
    refine ce_then ?_
    refine cw_ret ?_
    refine ce_results (v := .agg #[.int .i64 (N), .slice A3 (fs.length) (c3)]) (res1 rfl (rv_c rfl tI25 rfl (List.Mem.head _))) (fun w' hw => ?_)
    exact ⟨A3, c3, fs, ⟨hk2, by omega⟩, rfl, ((.cons (.tail (.tail .head)) (.nil) : Keep _ _).ss hw).to_new⟩
set_option maxRecDepth 100000 in
theorem addEdgeG_c (w : World) (N : Int) (A : Option Addr) (n : Nat) (c : Nat) (es : List (Int × Int)) (a : Int) (b : Int) (hA : At w A (cells fE es)) (eA : es.length = n) (lA : n ≤ c) (hs : es.length ≤ 1000) : Calls Try.prog 128 #[.agg #[.int .i64 (N), .slice A (n) (c)], .int .i64 (a), .int .i64 (b)] w (Ret fun rv w' => ∃ A2 c2 fs, (fs.length ≤ c2 ∧ fs.length = es.length + 1) ∧ rv = .agg #[.int .i64 (N), .slice A2 (fs.length) (c2)] ∧ New w w' [row 43 2 A2 (fs.length) (c2) (cells fE fs)]) := by
  have oA := hA.atB
  subst eA
  refine fn_enter (args := [.agg #[.int .i64 (N), .slice A (es.length) (c)], .int .i64 (a), .int .i64 (b)]) Try.func128 rfl Try.ntmps128 rfl (SS.start w) ?_
  refine cw_seq ?_
  refine cw_region ?_
  refine wl_r (or_box rfl rfl) rfl rfl (kt1 rfl (fun g3 => ?_))
  refine wl_r (or_alloc tI25 rfl) rfl rfl (kt1 rfl (fun g6 => ?_))
  refine wl_nil ?_
  refine ce_then ?_
  refine cw_seq ?_
  refine cw_region ?_
  refine wl_v (ov_move rfl) rfl rfl rfl ?_
  refine wl_v (ov_move rfl) rfl rfl rfl ?_
  refine wl_v (ov_min (r := min a b) rfl rfl (by first | omega | (split <;> omega))) rfl rfl rfl ?_
  refine wl_v (ov_move rfl) rfl rfl rfl ?_
  refine wl_v (ov_move rfl) rfl rfl rfl ?_
  refine wl_v (ov_max (r := max a b) rfl rfl (by first | omega | (split <;> omega))) rfl rfl rfl ?_
  refine wl_v (ov_build (is := [0, 1]) (vs := [.int .i64 (min a b), .int .i64 (max a b)]) (v := .agg #[.int .i64 (min a b), .int .i64 (max a b)]) rfl rfl (fun _ => by kernel_rfl)) rfl rfl rfl ?_
  refine wl_r (or_alloc tI43 rfl) rfl rfl (kt1 rfl (fun g7 => ?_))
  refine wl_r0 (or_store_blk (vs := [.int .i64 (min a b), .int .i64 (max a b)]) (cs' := [.int .i64 (min a b), .int .i64 (max a b)]) (.head) tI43 rfl rfl rfl rfl (Nat.le_of_ble_eq_true rfl) rfl) rfl rfl (kn0 ?_)
  refine wl_nil ?_
  refine ce_then ?_
  refine cw_seq ?_
  refine cw_region ?_
  refine wl_v (ov_assign rfl) rfl rfl rfl ?_
  refine wl_nil ?_
  refine ce_then ?_
  refine cw_seq ?_
  refine cw_block ?_
  refine cw_loop1 (fun (k : Nat) => [(3, elp (some ⟨g3, 0, none⟩) (0)), (6, elp (some ⟨g6, 0, none⟩) (0)), (7, elp (some ⟨g7, 0, none⟩) (0)), (8, .int .i64 (((k : Nat) : Int)))]) (fun (k : Nat) => [blk g7 [.int .i64 (min a b), .int .i64 (max a b)] 43, blk g6 [.int .i64 (0), .slice none (0) (0)] 25, blk g3 [.int .i64 (N), .slice A (es.length) (c)] 25]) (fun (k : Nat) => k ≤ es.length) (fun (k : Nat) => es.length - k) 0 (by omega) (.cons rfl (.cons rfl (.cons rfl (.cons (congrArg (fun z => some (Value.int .i64 z)) (show 0 = ((0 : Nat) : Int) by first | omega | rfl | (simp; done))) (.nil))))) (.cons (.head) (.cons (.head) (.cons (.head) (.nil)))) ?_
  intro R0 k hk hR0
  refine cw_seq ?_
  refine cw_seq ?_
  refine cw_draw mixO [] (.cons (.head) (.cons (.head) (.cons (.head) (.nil)))) rfl ?_
  refine wg_takep (i := 0) rfl (ov_move rfl) rfl rfl rfl (by kernel_rfl) (by kernel_rfl) (by kernel_rfl) rfl ?_
  refine wg_take (i := 1) rfl (ov_fieldAddr fI25_1 some_lit rfl) rfl rfl rfl (by kernel_rfl) (by kernel_rfl) (by kernel_rfl) (by kernel_rfl) ?_
  refine wg_take (i := 2) rfl (ov_load tI23 (holds_blk (List.Mem.tail _ (List.Mem.tail _ (List.Mem.head _)))) rfl rfl) rfl rfl rfl (by kernel_rfl) (by kernel_rfl) (by kernel_rfl) (by kernel_rfl) ?_
  refine wg_takep (i := 3) rfl (ov_len (sliceI_spec sI23) rfl) rfl rfl rfl (by kernel_rfl) (by kernel_rfl) (by kernel_rfl) rfl ?_
  refine wg_takep_if (i := 4) rfl (ov_lss rfl rfl) rfl rfl rfl (by kernel_rfl) (by kernel_rfl) (by kernel_rfl) rfl (fun c21 => ?_) (fun c21 => ?_)
  ·
    refine wg_takep (i := 5) rfl (ov_move rfl) rfl rfl rfl (by kernel_rfl) (by kernel_rfl) (by kernel_rfl) rfl ?_
    refine wg_take_go (i := 6) rfl rfl rfl (ov_fieldAddr fI25_1 some_lit rfl) rfl (by kernel_rfl) (by kernel_rfl) (by kernel_rfl) (by kernel_rfl) ?_
    refine wg_take_go (i := 7) rfl rfl rfl (ov_load tI23 (holds_blk (List.Mem.tail _ (List.Mem.tail _ (List.Mem.head _)))) rfl rfl) rfl (by kernel_rfl) (by kernel_rfl) (by kernel_rfl) (by kernel_rfl) ?_
    refine wg_take_go (i := 8) rfl rfl rfl (ov_move rfl) rfl (by kernel_rfl) (by kernel_rfl) (by kernel_rfl) (by kernel_rfl) ?_
    refine wg_take_go (i := 9) rfl rfl rfl (ov_index (k := k) (c := c) sI23 tI43 rfl rfl (some_holds (q := k * 2) (holds_old oA) (by rw [cells_length fE_len]; have hlt : k < es.length := (by omega); omega)) (show k < es.length from (by omega))) rfl (by kernel_rfl) (by kernel_rfl) (by kernel_rfl) (by kernel_rfl) ?_
    refine wg_take_go (i := 10) rfl rfl rfl (ov_loadAgg (vs := [.int .i64 ((es.getD k (0, 0)).1), .int .i64 ((es.getD k (0, 0)).2)]) tI43 (holds_old oA) rfl (some_holds (q := k * 2) (holds_old oA) (by rw [cells_length fE_len]; have hlt : k < es.length := (by omega); omega)) (cells_elem fE_len (0, 0) (show k < es.length from (by omega))) rfl) rfl (by kernel_rfl) (by kernel_rfl) (by kernel_rfl) (by kernel_rfl) ?_
    refine wg_take_go (i := 11) rfl rfl rfl (ov_loadAgg (vs := [.int .i64 (min a b), .int .i64 (max a b)]) tI43 (holds_blk (List.Mem.head _)) rfl some_lit rfl rfl) rfl (by kernel_rfl) (by kernel_rfl) (by kernel_rfl) (by kernel_rfl) ?_
    refine wg_one (i := 12) (by kernel_rfl) ?_
    refine go_rg rfl rfl rfl rfl (or_call (fv := []) (vs := [.agg #[.int .i64 ((es.getD k (0, 0)).1), .int .i64 ((es.getD k (0, 0)).2)], .agg #[.int .i64 (min a b), .int .i64 (max a b)]]) (cs := []) en96 rfl rfl (call_v (fun w hw => edgeBelow_c w ((es.getD k (0, 0)).1) ((es.getD k (0, 0)).2) (min a b) (max a b) ))) (kt_if rfl (fun c29 => ?_) (fun c29 => ?_))
    ·
      refine gk (.cons (.head) (.cons (.head) (.cons (.head) (.nil)))) ?_
      refine wg_takep (i := 13) rfl (ov_pick_t rfl rfl) rfl rfl rfl (by kernel_rfl) (by kernel_rfl) (by kernel_rfl) rfl ?_
      refine wg_done (by kernel_rfl) ?_
      refine ce_then ?_
      refine cw_true rfl ?_
      refine cw_skip ?_
      refine ce_then ?_
      refine cw_block ?_
      refine cw_region ?_
      refine wl_v (ov_move rfl) rfl rfl rfl ?_
      refine wl_v (ov_add (r := ((k + 1 : Nat) : Int)) rfl rfl rfl (by omega)) rfl rfl rfl ?_
      refine wl_v (ov_assign rfl) rfl rfl rfl ?_
      refine wl_nil ?_
      refine ce_block ?_
      exact fun ac_ w_ hs_ => hR0 (k + 1) (by omega) (by omega) ac_ w_ (hs_.weaken (.cons rfl (.cons rfl (.cons rfl (.cons rfl (.nil))))) (.cons (.head) (.cons (.head) (.cons (.head) (.nil)))))
    ·
      refine gk (.cons (.head) (.cons (.head) (.cons (.head) (.nil)))) ?_
      refine wg_takep (i := 13) rfl (ov_pick_t rfl rfl) rfl rfl rfl (by kernel_rfl) (by kernel_rfl) (by kernel_rfl) rfl ?_
      refine wg_done (by kernel_rfl) ?_
      refine ce_then ?_
      refine cw_false rfl ?_
      refine cw_exit ?_
      refine ce_then_exit ?_
      refine ce_then_exit ?_
      refine ce_hit ?_
      refine ce_then ?_
      refine cw_seq ?_
      refine cw_region ?_
      refine wl_r (or_buildSlice (e := 43) (size := 2) (is := []) (vs := []) (cs := cells fE ([])) rfl rfl rfl (by decide) (fun _ => by kernel_rfl)) rfl rfl (kt1 rfl (fun g33 => ?_))
      refine wl_v (ov_fieldAddr fI25_1 some_lit rfl) rfl rfl rfl ?_
      refine wl_v (ov_load tI23 (holds_blk (List.Mem.tail _ (List.Mem.tail _ (List.Mem.tail _ (List.Mem.head _))))) rfl rfl) rfl rfl rfl ?_
      refine wl_v (ov_move rfl) rfl rfl rfl ?_
      refine wl_v (ov_slice_h (h := k) sI23 tI43 rfl rfl (by omega)) rfl rfl rfl ?_
      refine wl_r (or_append (c2 := c) sI23 tI43 rfl (by decide) rfl rfl (.head) (holds_takeC (k := k) fE_len (holds_old oA)) ((by rw [cells_length fE_len, List.length_take]; omega)) (one_cells fE_one _) cells_append (by omega) (by omega)) rfl rfl (kt2p rfl (fun A38 c38 h38 => ?_))
      refine wl_v (ov_assign rfl) rfl rfl rfl ?_
      refine wl_nil ?_
      refine ce_then ?_
      refine cw_seq ?_
      refine cw_draw mixO [12] (.cons (.tail .head) (.cons (.tail .head) (.cons (.tail .head) (.nil)))) rfl ?_
      refine wg_take (i := 0) rfl (ov_fieldAddr fI25_0 some_lit rfl) rfl rfl rfl (by kernel_rfl) (by kernel_rfl) (by kernel_rfl) (by kernel_rfl) ?_
      refine wg_take (i := 1) rfl (ov_load tI3 (holds_blk (List.Mem.tail _ (List.Mem.tail _ (List.Mem.head _)))) rfl rfl) rfl rfl rfl (by kernel_rfl) (by kernel_rfl) (by kernel_rfl) (by kernel_rfl) ?_
      refine wg_takep (i := 2) rfl (ov_move rfl) rfl rfl rfl (by kernel_rfl) (by kernel_rfl) (by kernel_rfl) rfl ?_
      refine wg_take (i := 3) rfl (ov_loadAgg (vs := [.int .i64 (min a b), .int .i64 (max a b)]) tI43 (holds_blk (List.Mem.head _)) rfl some_lit rfl rfl) rfl rfl rfl (by kernel_rfl) (by kernel_rfl) (by kernel_rfl) (by kernel_rfl) ?_
      refine wg_take (i := 6) rfl (ov_fieldAddr fI25_1 some_lit rfl) rfl rfl rfl (by kernel_rfl) (by kernel_rfl) (by kernel_rfl) (by kernel_rfl) ?_
      refine wg_take (i := 7) rfl (ov_load tI23 (holds_blk (List.Mem.tail _ (List.Mem.tail _ (List.Mem.head _)))) rfl rfl) rfl rfl rfl (by kernel_rfl) (by kernel_rfl) (by kernel_rfl) (by kernel_rfl) ?_
      refine wg_takep (i := 8) rfl (ov_move rfl) rfl rfl rfl (by kernel_rfl) (by kernel_rfl) (by kernel_rfl) rfl ?_
      refine wg_takep (i := 9) rfl (ov_slice_l (l := k) sI23 tI43 rfl rfl (by omega)) rfl rfl rfl (by kernel_rfl) (by kernel_rfl) (by kernel_rfl) rfl ?_
      refine wg_one (i := 4) (by kernel_rfl) ?_
      refine go_r rfl rfl rfl rfl (or_buildSlice (e := 43) (size := 2) (is := [0]) (vs := [.agg #[.int .i64 (min a b), .int .i64 (max a b)]]) (cs := cells fE ([(min a b, max a b)])) rfl rfl rfl (by decide) (fun _ => by kernel_rfl)) (kt1 rfl (fun g43 => ?_))
      refine gk (.cons (.tail (.tail .head)) (.cons (.tail (.tail .head)) (.cons (.tail (.tail .head)) (.nil)))) ?_
      refine wg_one (i := 5) (by kernel_rfl) ?_
      refine go_r rfl rfl rfl rfl (or_append (c2 := 1) sI23 tI43 rfl (by decide) rfl rfl (.tail .head) (holds_row (List.Mem.head _)) (by rw [cells_length fE_len]; try simp) (one_cells fE_one _) cells_append (by omega) (by omega)) (kt2p rfl (fun A44 c44 h44 => ?_))
      refine gk (.cons (.tail (.tail .head)) (.cons (.tail (.tail .head)) (.cons (.tail (.tail .head)) (.nil)))) ?_
      refine wg_one (i := 10) (by kernel_rfl) ?_
      refine go_r rfl rfl rfl rfl (or_append (c2 := c - k) sI23 tI43 rfl (by decide) rfl rfl (.head) (holds_dropC (l := k) fE_len (holds_old oA) (by first | exact lA | omega)) ((by rw [cells_length fE_len, List.length_drop])) (one_cells fE_one _) cells_append (by omega) (by omega)) (kt2p rfl (fun A49 c49 h49 => ?_))
      refine gk (.cons (.tail (.tail .head)) (.cons (.tail (.tail .head)) (.cons (.tail (.tail .head)) (.nil)))) ?_
      refine wg_takep (i := 11) rfl (ov_build (is := [0, 1]) (vs := [.int .i64 (N), .slice A49 (((0 + k) + 1) + (es.length - k)) (c49)]) (v := .agg #[.int .i64 (N), .slice A49 (((0 + k) + 1) + (es.length - k)) (c49)]) rfl rfl (fun _ => by kernel_rfl)) rfl rfl rfl (by kernel_rfl) (by kernel_rfl) (by kernel_rfl) rfl ?_
      refine wg_one (i := 12) (by kernel_rfl) ?_
      refine go_late0 rfl rfl rfl rfl (or_store_blk (vs := [.int .i64 (N), .slice A49 (((0 + k) + 1) + (es.length - k)) (c49)]) (cs' := [.int .i64 (N), .slice A49 (((0 + k) + 1) + (es.length - k)) (c49)]) (.tail (.tail (.tail .head))) tI25 rfl rfl rfl rfl (Nat.le_of_ble_eq_true rfl) rfl) (kn0 ?_)
      refine wa_done (by kernel_rfl) ?_
      refine ce_then ?_
      refine cw_ret ?_
      refine ce_results (v := .agg #[.int .i64 (N), .slice A49 (((0 + k) + 1) + (es.length - k)) (c49)]) (res1 rfl (rv_c rfl tI25 rfl (List.Mem.head _))) (fun w' hw => ?_)
      exact ⟨A49, c49, ((([]) ++ (es.take k)) ++ ([(min a b, max a b)])) ++ (es.drop k), ⟨by simp only [List.length_append, List.length_take, List.length_drop, List.length_cons, List.length_nil]; omega, by simp only [List.length_append, List.length_take, List.length_drop, List.length_cons, List.length_nil]; omega⟩, (by rw [show ((((([]) ++ (es.take k)) ++ ([(min a b, max a b)])) ++ (es.drop k)) : List Ed).length = ((0 + k) + 1) + (es.length - k) from by simp only [List.length_append, List.length_take, List.length_drop, List.length_cons, List.length_nil]; omega]), ((.consE (show row 43 2 A49 (((0 + k) + 1) + (es.length - k)) (c49) (cells fE (((([]) ++ (es.take k)) ++ ([(min a b, max a b)])) ++ (es.drop k))) = row 43 2 A49 ((((([]) ++ (es.take k)) ++ ([(min a b, max a b)])) ++ (es.drop k)).length) (c49) (cells fE (((([]) ++ (es.take k)) ++ ([(min a b, max a b)])) ++ (es.drop k))) by rw [show ((((([]) ++ (es.take k)) ++ ([(min a b, max a b)])) ++ (es.drop k)) : List Ed).length = ((0 + k) + 1) + (es.length - k) from by simp only [List.length_append, List.length_take, List.length_drop, List.length_cons, List.length_nil]; omega]) (.tail .head) (.nil) : Keep _ _).ss hw).to_new⟩
  ·
    refine wg_takep (i := 5) rfl (ov_move rfl) rfl rfl rfl (by kernel_rfl) (by kernel_rfl) (by kernel_rfl) rfl ?_
    refine wg_take_not (i := 6) rfl rfl rfl rfl rfl (by kernel_rfl) (by kernel_rfl) (by kernel_rfl) (by kernel_rfl) ?_
    refine wg_take_not (i := 7) rfl rfl rfl rfl rfl (by kernel_rfl) (by kernel_rfl) (by kernel_rfl) (by kernel_rfl) ?_
    refine wg_take_not (i := 8) rfl rfl rfl rfl rfl (by kernel_rfl) (by kernel_rfl) (by kernel_rfl) (by kernel_rfl) ?_
    refine wg_take_not (i := 9) rfl rfl rfl rfl rfl (by kernel_rfl) (by kernel_rfl) (by kernel_rfl) (by kernel_rfl) ?_
    refine wg_take_not (i := 10) rfl rfl rfl rfl rfl (by kernel_rfl) (by kernel_rfl) (by kernel_rfl) (by kernel_rfl) ?_
    refine wg_take_not (i := 11) rfl rfl rfl rfl rfl (by kernel_rfl) (by kernel_rfl) (by kernel_rfl) (by kernel_rfl) ?_
    refine wg_take_not (i := 12) rfl rfl rfl rfl rfl (by kernel_rfl) (by kernel_rfl) (by kernel_rfl) (by kernel_rfl) ?_
    refine wg_takep (i := 13) rfl (ov_pick_f rfl rfl) rfl rfl rfl (by kernel_rfl) (by kernel_rfl) (by kernel_rfl) rfl ?_
    refine wg_done (by kernel_rfl) ?_
    refine ce_then ?_
    refine cw_false rfl ?_
    refine cw_exit ?_
    refine ce_then_exit ?_
    refine ce_then_exit ?_
    refine ce_hit ?_
    refine ce_then ?_
    refine cw_seq ?_
    refine cw_region ?_
    refine wl_r (or_buildSlice (e := 43) (size := 2) (is := []) (vs := []) (cs := cells fE ([])) rfl rfl rfl (by decide) (fun _ => by kernel_rfl)) rfl rfl (kt1 rfl (fun g33 => ?_))
    refine wl_v (ov_fieldAddr fI25_1 some_lit rfl) rfl rfl rfl ?_
    refine wl_v (ov_load tI23 (holds_blk (List.Mem.tail _ (List.Mem.tail _ (List.Mem.tail _ (List.Mem.head _))))) rfl rfl) rfl rfl rfl ?_
    refine wl_v (ov_move rfl) rfl rfl rfl ?_
    refine wl_v (ov_slice_h (h := k) sI23 tI43 rfl rfl (by omega)) rfl rfl rfl ?_
    refine wl_r (or_append (c2 := c) sI23 tI43 rfl (by decide) rfl rfl (.head) (holds_takeC (k := k) fE_len (holds_old oA)) ((by rw [cells_length fE_len, List.length_take]; omega)) (one_cells fE_one _) cells_append (by omega) (by omega)) rfl rfl (kt2p rfl (fun A38 c38 h38 => ?_))
    refine wl_v (ov_assign rfl) rfl rfl rfl ?_
    refine wl_nil ?_
    refine ce_then ?_
    refine cw_seq ?_
    refine cw_draw mixO [12] (.cons (.tail .head) (.cons (.tail .head) (.cons (.tail .head) (.nil)))) rfl ?_
    refine wg_take (i := 0) rfl (ov_fieldAddr fI25_0 some_lit rfl) rfl rfl rfl (by kernel_rfl) (by kernel_rfl) (by kernel_rfl) (by kernel_rfl) ?_
    refine wg_take (i := 1) rfl (ov_load tI3 (holds_blk (List.Mem.tail _ (List.Mem.tail _ (List.Mem.head _)))) rfl rfl) rfl rfl rfl (by kernel_rfl) (by kernel_rfl) (by kernel_rfl) (by kernel_rfl) ?_
    refine wg_takep (i := 2) rfl (ov_move rfl) rfl rfl rfl (by kernel_rfl) (by kernel_rfl) (by kernel_rfl) rfl ?_
    refine wg_take (i := 3) rfl (ov_loadAgg (vs := [.int .i64 (min a b), .int .i64 (max a b)]) tI43 (holds_blk (List.Mem.head _)) rfl some_lit rfl rfl) rfl rfl rfl (by kernel_rfl) (by kernel_rfl) (by kernel_rfl) (by kernel_rfl) ?_
    refine wg_take (i := 6) rfl (ov_fieldAddr fI25_1 some_lit rfl) rfl rfl rfl (by kernel_rfl) (by kernel_rfl) (by kernel_rfl) (by kernel_rfl) ?_
    refine wg_take (i := 7) rfl (ov_load tI23 (holds_blk (List.Mem.tail _ (List.Mem.tail _ (List.Mem.head _)))) rfl rfl) rfl rfl rfl (by kernel_rfl) (by kernel_rfl) (by kernel_rfl) (by kernel_rfl) ?_
    refine wg_takep (i := 8) rfl (ov_move rfl) rfl rfl rfl (by kernel_rfl) (by kernel_rfl) (by kernel_rfl) rfl ?_
    refine wg_takep (i := 9) rfl (ov_slice_l (l := k) sI23 tI43 rfl rfl (by omega)) rfl rfl rfl (by kernel_rfl) (by kernel_rfl) (by kernel_rfl) rfl ?_
    refine wg_one (i := 4) (by kernel_rfl) ?_
    refine go_r rfl rfl rfl rfl (or_buildSlice (e := 43) (size := 2) (is := [0]) (vs := [.agg #[.int .i64 (min a b), .int .i64 (max a b)]]) (cs := cells fE ([(min a b, max a b)])) rfl rfl rfl (by decide) (fun _ => by kernel_rfl)) (kt1 rfl (fun g43 => ?_))
    refine gk (.cons (.tail (.tail .head)) (.cons (.tail (.tail .head)) (.cons (.tail (.tail .head)) (.nil)))) ?_
    refine wg_one (i := 5) (by kernel_rfl) ?_
    refine go_r rfl rfl rfl rfl (or_append (c2 := 1) sI23 tI43 rfl (by decide) rfl rfl (.tail .head) (holds_row (List.Mem.head _)) (by rw [cells_length fE_len]; try simp) (one_cells fE_one _) cells_append (by omega) (by omega)) (kt2p rfl (fun A44 c44 h44 => ?_))
    refine gk (.cons (.tail (.tail .head)) (.cons (.tail (.tail .head)) (.cons (.tail (.tail .head)) (.nil)))) ?_
    refine wg_one (i := 10) (by kernel_rfl) ?_
    refine go_r rfl rfl rfl rfl (or_append (c2 := c - k) sI23 tI43 rfl (by decide) rfl rfl (.head) (holds_dropC (l := k) fE_len (holds_old oA) (by first | exact lA | omega)) ((by rw [cells_length fE_len, List.length_drop])) (one_cells fE_one _) cells_append (by omega) (by omega)) (kt2p rfl (fun A49 c49 h49 => ?_))
    refine gk (.cons (.tail (.tail .head)) (.cons (.tail (.tail .head)) (.cons (.tail (.tail .head)) (.nil)))) ?_
    refine wg_takep (i := 11) rfl (ov_build (is := [0, 1]) (vs := [.int .i64 (N), .slice A49 (((0 + k) + 1) + (es.length - k)) (c49)]) (v := .agg #[.int .i64 (N), .slice A49 (((0 + k) + 1) + (es.length - k)) (c49)]) rfl rfl (fun _ => by kernel_rfl)) rfl rfl rfl (by kernel_rfl) (by kernel_rfl) (by kernel_rfl) rfl ?_
    refine wg_one (i := 12) (by kernel_rfl) ?_
    refine go_late0 rfl rfl rfl rfl (or_store_blk (vs := [.int .i64 (N), .slice A49 (((0 + k) + 1) + (es.length - k)) (c49)]) (cs' := [.int .i64 (N), .slice A49 (((0 + k) + 1) + (es.length - k)) (c49)]) (.tail (.tail (.tail .head))) tI25 rfl rfl rfl rfl (Nat.le_of_ble_eq_true rfl) rfl) (kn0 ?_)
    refine wa_done (by kernel_rfl) ?_
    refine ce_then ?_
    refine cw_ret ?_
    refine ce_results (v := .agg #[.int .i64 (N), .slice A49 (((0 + k) + 1) + (es.length - k)) (c49)]) (res1 rfl (rv_c rfl tI25 rfl (List.Mem.head _))) (fun w' hw => ?_)
    exact ⟨A49, c49, ((([]) ++ (es.take k)) ++ ([(min a b, max a b)])) ++ (es.drop k), ⟨by simp only [List.length_append, List.length_take, List.length_drop, List.length_cons, List.length_nil]; omega, by simp only [List.length_append, List.length_take, List.length_drop, List.length_cons, List.length_nil]; omega⟩, (by rw [show ((((([]) ++ (es.take k)) ++ ([(min a b, max a b)])) ++ (es.drop k)) : List Ed).length = ((0 + k) + 1) + (es.length - k) from by simp only [List.length_append, List.length_take, List.length_drop, List.length_cons, List.length_nil]; omega]), ((.consE (show row 43 2 A49 (((0 + k) + 1) + (es.length - k)) (c49) (cells fE (((([]) ++ (es.take k)) ++ ([(min a b, max a b)])) ++ (es.drop k))) = row 43 2 A49 ((((([]) ++ (es.take k)) ++ ([(min a b, max a b)])) ++ (es.drop k)).length) (c49) (cells fE (((([]) ++ (es.take k)) ++ ([(min a b, max a b)])) ++ (es.drop k))) by rw [show ((((([]) ++ (es.take k)) ++ ([(min a b, max a b)])) ++ (es.drop k)) : List Ed).length = ((0 + k) + 1) + (es.length - k) from by simp only [List.length_append, List.length_take, List.length_drop, List.length_cons, List.length_nil]; omega]) (.tail .head) (.nil) : Keep _ _).ss hw).to_new⟩
set_option maxRecDepth 100000 in
theorem maySwitch_c (w : World) (N : Int) (A : Option Addr) (n : Nat) (c : Nat) (es : List (Int × Int)) (s1 : Int) (s2 : Int) (s3 : Int) (s4 : Int) (hA : At w A (cells fE es)) (eA : es.length = n) (lA : n ≤ c) (hs : es.length ≤ 1000) : Calls Try.prog 143 #[.agg #[.int .i64 (N), .slice A (n) (c)], .agg #[.int .i64 (s1), .int .i64 (s2), .int .i64 (s3), .int .i64 (s4)]] w (Ret fun rv w' => ∃ b, (True) ∧ rv = .bool (b) ∧ New w w' []) := by
  have oA := hA.atB
  subst eA
  refine fn_enter (args := [.agg #[.int .i64 (N), .slice A (es.length) (c)], .agg #[.int .i64 (s1), .int .i64 (s2), .int .i64 (s3), .int .i64 (s4)]]) Try.func143 rfl Try.ntmps143 rfl (SS.start w) ?_
  refine cw_seq ?_
  refine cw_region ?_
  refine wl_r (or_box rfl rfl) rfl rfl (kt1 rfl (fun g2 => ?_))
  refine wl_r (or_box rfl rfl) rfl rfl (kt1 rfl (fun g3 => ?_))
  refine wl_v (ov_assign rfl) rfl rfl rfl ?_
  refine wl_nil ?_
  refine ce_then ?_
  refine cw_seq ?_
  refine cw_region ?_
  refine wl_v (ov_fieldAddr fI116_0 some_lit rfl) rfl rfl rfl ?_
  refine wl_v (ov_load tI3 (holds_blk (List.Mem.head _)) rfl rfl) rfl rfl rfl ?_
  refine wl_v (ov_fieldAddr fI116_2 some_lit rfl) rfl rfl rfl ?_
  refine wl_v (ov_load tI3 (holds_blk (List.Mem.head _)) rfl rfl) rfl rfl rfl ?_
  refine wl_if (ov_neq rfl rfl) rfl rfl rfl (fun c9 => ?_) (fun c9 => ?_)
  ·
    refine wl_v (ov_move rfl) rfl rfl rfl ?_
    refine wl_go rfl rfl ?_
    refine wl_v (ov_fieldAddr fI116_1 some_lit rfl) rfl rfl rfl ?_
    refine wl_go rfl rfl ?_
    refine wl_v (ov_load tI3 (holds_blk (List.Mem.head _)) rfl rfl) rfl rfl rfl ?_
    refine wl_go rfl rfl ?_
    refine wl_v (ov_fieldAddr fI116_3 some_lit rfl) rfl rfl rfl ?_
    refine wl_go rfl rfl ?_
    refine wl_v (ov_load tI3 (holds_blk (List.Mem.head _)) rfl rfl) rfl rfl rfl ?_
    refine wl_go rfl rfl ?_
    refine wl_if (ov_neq rfl rfl) rfl rfl rfl (fun c15 => ?_) (fun c15 => ?_)
    ·
      refine wl_v (ov_pick_t rfl rfl) rfl rfl rfl ?_
      refine wl_v (ov_move rfl) rfl rfl rfl ?_
      refine wl_go rfl rfl ?_
      refine wl_v (ov_fieldAddr fI116_0 some_lit rfl) rfl rfl rfl ?_
      refine wl_go rfl rfl ?_
      refine wl_v (ov_load tI3 (holds_blk (List.Mem.head _)) rfl rfl) rfl rfl rfl ?_
      refine wl_go rfl rfl ?_
      refine wl_v (ov_fieldAddr fI116_3 some_lit rfl) rfl rfl rfl ?_
      refine wl_go rfl rfl ?_
      refine wl_v (ov_load tI3 (holds_blk (List.Mem.head _)) rfl rfl) rfl rfl rfl ?_
      refine wl_go rfl rfl ?_
      refine wl_if (ov_neq rfl rfl) rfl rfl rfl (fun c22 => ?_) (fun c22 => ?_)
      ·
        refine wl_v (ov_pick_t rfl rfl) rfl rfl rfl ?_
        refine wl_v (ov_move rfl) rfl rfl rfl ?_
        refine wl_go rfl rfl ?_
        refine wl_v (ov_fieldAddr fI116_1 some_lit rfl) rfl rfl rfl ?_
        refine wl_go rfl rfl ?_
        refine wl_v (ov_load tI3 (holds_blk (List.Mem.head _)) rfl rfl) rfl rfl rfl ?_
        refine wl_go rfl rfl ?_
        refine wl_v (ov_fieldAddr fI116_2 some_lit rfl) rfl rfl rfl ?_
        refine wl_go rfl rfl ?_
        refine wl_v (ov_load tI3 (holds_blk (List.Mem.head _)) rfl rfl) rfl rfl rfl ?_
        refine wl_go rfl rfl ?_
        refine wl_if (ov_neq rfl rfl) rfl rfl rfl (fun c29 => ?_) (fun c29 => ?_)
        ·
          refine wl_v (ov_pick_t rfl rfl) rfl rfl rfl ?_
          refine wl_v (ov_move rfl) rfl rfl rfl ?_
          refine wl_go rfl rfl ?_
          refine wl_v (ov_loadAgg (vs := [.int .i64 (N), .slice A (es.length) (c)]) tI25 (holds_blk (List.Mem.tail _ (List.Mem.head _))) rfl some_lit rfl rfl) rfl rfl rfl ?_
          refine wl_go rfl rfl ?_
          refine wl_v (ov_fieldAddr fI116_0 some_lit rfl) rfl rfl rfl ?_
          refine wl_go rfl rfl ?_
          refine wl_v (ov_load tI3 (holds_blk (List.Mem.head _)) rfl rfl) rfl rfl rfl ?_
          refine wl_go rfl rfl ?_
          refine wl_v (ov_fieldAddr fI116_1 some_lit rfl) rfl rfl rfl ?_
          refine wl_go rfl rfl ?_
          refine wl_v (ov_load tI3 (holds_blk (List.Mem.head _)) rfl rfl) rfl rfl rfl ?_
          refine wl_go rfl rfl ?_
          refine wl_r (or_call (fv := []) (vs := [.agg #[.int .i64 (N), .slice A (es.length) (c)], .int .i64 (s1), .int .i64 (s2)]) (cs := []) en113 rfl rfl (call_v (fun w hw => hasEdge_c w N A es.length c es s1 s2 ((holds_old oA) w hw) rfl lA (by first | assumption | omega | (simp; omega))))) rfl rfl (kt_if rfl (fun c37 => ?_) (fun c37 => ?_))
          ·
            refine wl_v (ov_pick_t rfl rfl) rfl rfl rfl ?_
            refine wl_v (ov_move rfl) rfl rfl rfl ?_
            refine wl_go rfl rfl ?_
            refine wl_v (ov_loadAgg (vs := [.int .i64 (N), .slice A (es.length) (c)]) tI25 (holds_blk (List.Mem.tail _ (List.Mem.head _))) rfl some_lit rfl rfl) rfl rfl rfl ?_
            refine wl_go rfl rfl ?_
            refine wl_v (ov_fieldAddr fI116_2 some_lit rfl) rfl rfl rfl ?_
            refine wl_go rfl rfl ?_
            refine wl_v (ov_load tI3 (holds_blk (List.Mem.head _)) rfl rfl) rfl rfl rfl ?_
            refine wl_go rfl rfl ?_
            refine wl_v (ov_fieldAddr fI116_3 some_lit rfl) rfl rfl rfl ?_
            refine wl_go rfl rfl ?_
            refine wl_v (ov_load tI3 (holds_blk (List.Mem.head _)) rfl rfl) rfl rfl rfl ?_
            refine wl_go rfl rfl ?_
            refine wl_r (or_call (fv := []) (vs := [.agg #[.int .i64 (N), .slice A (es.length) (c)], .int .i64 (s3), .int .i64 (s4)]) (cs := []) en113 rfl rfl (call_v (fun w hw => hasEdge_c w N A es.length c es s3 s4 ((holds_old oA) w hw) rfl lA (by first | assumption | omega | (simp; omega))))) rfl rfl (kt_if rfl (fun c45 => ?_) (fun c45 => ?_))
            ·
              refine wl_v (ov_pick_t rfl rfl) rfl rfl rfl ?_
              refine wl_v (ov_move rfl) rfl rfl rfl ?_
              refine wl_go rfl rfl ?_
              refine wl_v (ov_loadAgg (vs := [.int .i64 (N), .slice A (es.length) (c)]) tI25 (holds_blk (List.Mem.tail _ (List.Mem.head _))) rfl some_lit rfl rfl) rfl rfl rfl ?_
              refine wl_go rfl rfl ?_
              refine wl_v (ov_fieldAddr fI116_0 some_lit rfl) rfl rfl rfl ?_
              refine wl_go rfl rfl ?_
              refine wl_v (ov_load tI3 (holds_blk (List.Mem.head _)) rfl rfl) rfl rfl rfl ?_
              refine wl_go rfl rfl ?_
              refine wl_v (ov_fieldAddr fI116_2 some_lit rfl) rfl rfl rfl ?_
              refine wl_go rfl rfl ?_
              refine wl_v (ov_load tI3 (holds_blk (List.Mem.head _)) rfl rfl) rfl rfl rfl ?_
              refine wl_go rfl rfl ?_
              refine wl_r (or_call (fv := []) (vs := [.agg #[.int .i64 (N), .slice A (es.length) (c)], .int .i64 (s1), .int .i64 (s3)]) (cs := []) en113 rfl rfl (call_v (fun w hw => hasEdge_c w N A es.length c es s1 s3 ((holds_old oA) w hw) rfl lA (by first | assumption | omega | (simp; omega))))) rfl rfl (kt_if rfl (fun c53 => ?_) (fun c53 => ?_))
              ·
                refine wl_go rfl rfl ?_
                refine wl_v (ov_not rfl) rfl rfl rfl ?_
                refine wl_v (ov_pick_t rfl rfl) rfl rfl rfl ?_
                refine wl_v (ov_move rfl) rfl rfl rfl ?_
                refine wl_not rfl rfl rfl rfl rfl rfl ?_
                refine wl_not rfl rfl rfl rfl rfl rfl ?_
                refine wl_not rfl rfl rfl rfl rfl rfl ?_
                refine wl_not rfl rfl rfl rfl rfl rfl ?_
                refine wl_not rfl rfl rfl rfl rfl rfl ?_
                refine wl_not rfl rfl rfl rfl rfl rfl ?_
                refine wl_not rfl rfl rfl rfl rfl rfl ?_
                refine wl_v (ov_pick_f rfl rfl) rfl rfl rfl ?_
                refine wl_v (ov_assign rfl) rfl rfl rfl ?_
                refine wl_nil ?_
                refine ce_then ?_
                refine cw_ret ?_
                refine ce_results (v := .bool false) (res1 rfl (rv_t rfl)) (fun w' hw => ?_)
                exact ⟨false, trivial, rfl, ((.nil : Keep _ _).ss hw).to_new⟩
              ·
                refine wl_go rfl rfl ?_
                refine wl_v (ov_not rfl) rfl rfl rfl ?_
                refine wl_v (ov_pick_t rfl rfl) rfl rfl rfl ?_
                refine wl_v (ov_move rfl) rfl rfl rfl ?_
                refine wl_go rfl rfl ?_
                refine wl_v (ov_loadAgg (vs := [.int .i64 (N), .slice A (es.length) (c)]) tI25 (holds_blk (List.Mem.tail _ (List.Mem.head _))) rfl some_lit rfl rfl) rfl rfl rfl ?_
                refine wl_go rfl rfl ?_
                refine wl_v (ov_fieldAddr fI116_1 some_lit rfl) rfl rfl rfl ?_
                refine wl_go rfl rfl ?_
                refine wl_v (ov_load tI3 (holds_blk (List.Mem.head _)) rfl rfl) rfl rfl rfl ?_
                refine wl_go rfl rfl ?_
                refine wl_v (ov_fieldAddr fI116_3 some_lit rfl) rfl rfl rfl ?_
                refine wl_go rfl rfl ?_
                refine wl_v (ov_load tI3 (holds_blk (List.Mem.head _)) rfl rfl) rfl rfl rfl ?_
                refine wl_go rfl rfl ?_
                refine wl_r (or_call (fv := []) (vs := [.agg #[.int .i64 (N), .slice A (es.length) (c)], .int .i64 (s2), .int .i64 (s4)]) (cs := []) en113 rfl rfl (call_v (fun w hw => hasEdge_c w N A es.length c es s2 s4 ((holds_old oA) w hw) rfl lA (by first | assumption | omega | (simp; omega))))) rfl rfl (kt_if rfl (fun c62 => ?_) (fun c62 => ?_))
                ·
                  refine wl_go rfl rfl ?_
                  refine wl_v (ov_not rfl) rfl rfl rfl ?_
                  refine wl_v (ov_pick_t rfl rfl) rfl rfl rfl ?_
                  refine wl_v (ov_assign rfl) rfl rfl rfl ?_
                  refine wl_nil ?_
                  refine ce_then ?_
                  refine cw_ret ?_
                  refine ce_results (v := .bool false) (res1 rfl (rv_t rfl)) (fun w' hw => ?_)
                  exact ⟨false, trivial, rfl, ((.nil : Keep _ _).ss hw).to_new⟩
                ·
                  refine wl_go rfl rfl ?_
                  refine wl_v (ov_not rfl) rfl rfl rfl ?_
                  refine wl_v (ov_pick_t rfl rfl) rfl rfl rfl ?_
                  refine wl_v (ov_assign rfl) rfl rfl rfl ?_
                  refine wl_nil ?_
                  refine ce_then ?_
                  refine cw_ret ?_
                  refine ce_results (v := .bool true) (res1 rfl (rv_t rfl)) (fun w' hw => ?_)
                  exact ⟨true, trivial, rfl, ((.nil : Keep _ _).ss hw).to_new⟩
            ·
              refine wl_v (ov_pick_t rfl rfl) rfl rfl rfl ?_
              refine wl_v (ov_move rfl) rfl rfl rfl ?_
              refine wl_not rfl rfl rfl rfl rfl rfl ?_
              refine wl_not rfl rfl rfl rfl rfl rfl ?_
              refine wl_not rfl rfl rfl rfl rfl rfl ?_
              refine wl_not rfl rfl rfl rfl rfl rfl ?_
              refine wl_not rfl rfl rfl rfl rfl rfl ?_
              refine wl_not rfl rfl rfl rfl rfl rfl ?_
              refine wl_not rfl rfl rfl rfl rfl rfl ?_
              refine wl_v (ov_pick_f rfl rfl) rfl rfl rfl ?_
              refine wl_v (ov_move rfl) rfl rfl rfl ?_
              refine wl_not rfl rfl rfl rfl rfl rfl ?_
              refine wl_not rfl rfl rfl rfl rfl rfl ?_
              refine wl_not rfl rfl rfl rfl rfl rfl ?_
              refine wl_not rfl rfl rfl rfl rfl rfl ?_
              refine wl_not rfl rfl rfl rfl rfl rfl ?_
              refine wl_not rfl rfl rfl rfl rfl rfl ?_
              refine wl_not rfl rfl rfl rfl rfl rfl ?_
              refine wl_v (ov_pick_f rfl rfl) rfl rfl rfl ?_
              refine wl_v (ov_assign rfl) rfl rfl rfl ?_
              refine wl_nil ?_
              refine ce_then ?_
              refine cw_ret ?_
              refine ce_results (v := .bool false) (res1 rfl (rv_t rfl)) (fun w' hw => ?_)
              exact ⟨false, trivial, rfl, ((.nil : Keep _ _).ss hw).to_new⟩
          ·
            refine wl_v (ov_pick_t rfl rfl) rfl rfl rfl ?_
            refine wl_v (ov_move rfl) rfl rfl rfl ?_
            refine wl_not rfl rfl rfl rfl rfl rfl ?_
            refine wl_not rfl rfl rfl rfl rfl rfl ?_
            refine wl_not rfl rfl rfl rfl rfl rfl ?_
            refine wl_not rfl rfl rfl rfl rfl rfl ?_
            refine wl_not rfl rfl rfl rfl rfl rfl ?_
            refine wl_not rfl rfl rfl rfl rfl rfl ?_
            refine wl_v (ov_pick_f rfl rfl) rfl rfl rfl ?_
            refine wl_v (ov_move rfl) rfl rfl rfl ?_
            refine wl_not rfl rfl rfl rfl rfl rfl ?_
            refine wl_not rfl rfl rfl rfl rfl rfl ?_
            refine wl_not rfl rfl rfl rfl rfl rfl ?_
            refine wl_not rfl rfl rfl rfl rfl rfl ?_
            refine wl_not rfl rfl rfl rfl rfl rfl ?_
            refine wl_not rfl rfl rfl rfl rfl rfl ?_
            refine wl_not rfl rfl rfl rfl rfl rfl ?_
            refine wl_v (ov_pick_f rfl rfl) rfl rfl rfl ?_
            refine wl_v (ov_move rfl) rfl rfl rfl ?_
            refine wl_not rfl rfl rfl rfl rfl rfl ?_
            refine wl_not rfl rfl rfl rfl rfl rfl ?_
            refine wl_not rfl rfl rfl rfl rfl rfl ?_
            refine wl_not rfl rfl rfl rfl rfl rfl ?_
            refine wl_not rfl rfl rfl rfl rfl rfl ?_
            refine wl_not rfl rfl rfl rfl rfl rfl ?_
            refine wl_not rfl rfl rfl rfl rfl rfl ?_
            refine wl_v (ov_pick_f rfl rfl) rfl rfl rfl ?_
            refine wl_v (ov_assign rfl) rfl rfl rfl ?_
            refine wl_nil ?_
            refine ce_then ?_
            refine cw_ret ?_
            refine ce_results (v := .bool false) (res1 rfl (rv_t rfl)) (fun w' hw => ?_)
            exact ⟨false, trivial, rfl, ((.nil : Keep _ _).ss hw).to_new⟩
        ·
          refine wl_v (ov_pick_t rfl rfl) rfl rfl rfl ?_
          refine wl_v (ov_move rfl) rfl rfl rfl ?_
          refine wl_not rfl rfl rfl rfl rfl rfl ?_
          refine wl_not rfl rfl rfl rfl rfl rfl ?_
          refine wl_not rfl rfl rfl rfl rfl rfl ?_
          refine wl_not rfl rfl rfl rfl rfl rfl ?_
          refine wl_not rfl rfl rfl rfl rfl rfl ?_
          refine wl_not rfl rfl rfl rfl rfl rfl ?_
          refine wl_v (ov_pick_f rfl rfl) rfl rfl rfl ?_
          refine wl_v (ov_move rfl) rfl rfl rfl ?_
          refine wl_not rfl rfl rfl rfl rfl rfl ?_
          refine wl_not rfl rfl rfl rfl rfl rfl ?_
          refine wl_not rfl rfl rfl rfl rfl rfl ?_
          refine wl_not rfl rfl rfl rfl rfl rfl ?_
          refine wl_not rfl rfl rfl rfl rfl rfl ?_
          refine wl_not rfl rfl rfl rfl rfl rfl ?_
          refine wl_v (ov_pick_f rfl rfl) rfl rfl rfl ?_
          refine wl_v (ov_move rfl) rfl rfl rfl ?_
          refine wl_not rfl rfl rfl rfl rfl rfl ?_
          refine wl_not rfl rfl rfl rfl rfl rfl ?_
          refine wl_not rfl rfl rfl rfl rfl rfl ?_
          refine wl_not rfl rfl rfl rfl rfl rfl ?_
          refine wl_not rfl rfl rfl rfl rfl rfl ?_
          refine wl_not rfl rfl rfl rfl rfl rfl ?_
          refine wl_not rfl rfl rfl rfl rfl rfl ?_
          refine wl_v (ov_pick_f rfl rfl) rfl rfl rfl ?_
          refine wl_v (ov_move rfl) rfl rfl rfl ?_
          refine wl_not rfl rfl rfl rfl rfl rfl ?_
          refine wl_not rfl rfl rfl rfl rfl rfl ?_
          refine wl_not rfl rfl rfl rfl rfl rfl ?_
          refine wl_not rfl rfl rfl rfl rfl rfl ?_
          refine wl_not rfl rfl rfl rfl rfl rfl ?_
          refine wl_not rfl rfl rfl rfl rfl rfl ?_
          refine wl_not rfl rfl rfl rfl rfl rfl ?_
          refine wl_v (ov_pick_f rfl rfl) rfl rfl rfl ?_
          refine wl_v (ov_assign rfl) rfl rfl rfl ?_
          refine wl_nil ?_
          refine ce_then ?_
          refine cw_ret ?_
          refine ce_results (v := .bool false) (res1 rfl (rv_t rfl)) (fun w' hw => ?_)
          exact ⟨false, trivial, rfl, ((.nil : Keep _ _).ss hw).to_new⟩
      ·
        refine wl_v (ov_pick_t rfl rfl) rfl rfl rfl ?_
        refine wl_v (ov_move rfl) rfl rfl rfl ?_
        refine wl_not rfl rfl rfl rfl rfl rfl ?_
        refine wl_not rfl rfl rfl rfl rfl rfl ?_
        refine wl_not rfl rfl rfl rfl rfl rfl ?_
        refine wl_not rfl rfl rfl rfl rfl rfl ?_
        refine wl_not rfl rfl rfl rfl rfl rfl ?_
        refine wl_v (ov_pick_f rfl rfl) rfl rfl rfl ?_
        refine wl_v (ov_move rfl) rfl rfl rfl ?_
        refine wl_not rfl rfl rfl rfl rfl rfl ?_
        refine wl_not rfl rfl rfl rfl rfl rfl ?_
        refine wl_not rfl rfl rfl rfl rfl rfl ?_
        refine wl_not rfl rfl rfl rfl rfl rfl ?_
        refine wl_not rfl rfl rfl rfl rfl rfl ?_
        refine wl_not rfl rfl rfl rfl rfl rfl ?_
        refine wl_v (ov_pick_f rfl rfl) rfl rfl rfl ?_
        refine wl_v (ov_move rfl) rfl rfl rfl ?_
        refine wl_not rfl rfl rfl rfl rfl rfl ?_
        refine wl_not rfl rfl rfl rfl rfl rfl ?_
        refine wl_not rfl rfl rfl rfl rfl rfl ?_
        refine wl_not rfl rfl rfl rfl rfl rfl ?_
        refine wl_not rfl rfl rfl rfl rfl rfl ?_
        refine wl_not rfl rfl rfl rfl rfl rfl ?_
        refine wl_v (ov_pick_f rfl rfl) rfl rfl rfl ?_
        refine wl_v (ov_move rfl) rfl rfl rfl ?_
        refine wl_not rfl rfl rfl rfl rfl rfl ?_
        refine wl_not rfl rfl rfl rfl rfl rfl ?_
        refine wl_not rfl rfl rfl rfl rfl rfl ?_
        refine wl_not rfl rfl rfl rfl rfl rfl ?_
        refine wl_not rfl rfl rfl rfl rfl rfl ?_
        refine wl_not rfl rfl rfl rfl rfl rfl ?_
        refine wl_not rfl rfl rfl rfl rfl rfl ?_
        refine wl_v (ov_pick_f rfl rfl) rfl rfl rfl ?_
        refine wl_v (ov_move rfl) rfl rfl rfl ?_
        refine wl_not rfl rfl rfl rfl rfl rfl ?_
        refine wl_not rfl rfl rfl rfl rfl rfl ?_
        refine wl_not rfl rfl rfl rfl rfl rfl ?_
        refine wl_not rfl rfl rfl rfl rfl rfl ?_
        refine wl_not rfl rfl rfl rfl rfl rfl ?_
        refine wl_not rfl rfl rfl rfl rfl rfl ?_
        refine wl_not rfl rfl rfl rfl rfl rfl ?_
        refine wl_v (ov_pick_f rfl rfl) rfl rfl rfl ?_
        refine wl_v (ov_assign rfl) rfl rfl rfl ?_
        refine wl_nil ?_
        refine ce_then ?_
        refine cw_ret ?_
        refine ce_results (v := .bool false) (res1 rfl (rv_t rfl)) (fun w' hw => ?_)
        exact ⟨false, trivial, rfl, ((.nil : Keep _ _).ss hw).to_new⟩
    ·
      refine wl_v (ov_pick_t rfl rfl) rfl rfl rfl ?_
      refine wl_v (ov_move rfl) rfl rfl rfl ?_
      refine wl_not rfl rfl rfl rfl rfl rfl ?_
      refine wl_not rfl rfl rfl rfl rfl rfl ?_
      refine wl_not rfl rfl rfl rfl rfl rfl ?_
      refine wl_not rfl rfl rfl rfl rfl rfl ?_
      refine wl_not rfl rfl rfl rfl rfl rfl ?_
      refine wl_v (ov_pick_f rfl rfl) rfl rfl rfl ?_
      refine wl_v (ov_move rfl) rfl rfl rfl ?_
      refine wl_not rfl rfl rfl rfl rfl rfl ?_
      refine wl_not rfl rfl rfl rfl rfl rfl ?_
      refine wl_not rfl rfl rfl rfl rfl rfl ?_
      refine wl_not rfl rfl rfl rfl rfl rfl ?_
      refine wl_not rfl rfl rfl rfl rfl rfl ?_
      refine wl_v (ov_pick_f rfl rfl) rfl rfl rfl ?_
      refine wl_v (ov_move rfl) rfl rfl rfl ?_
      refine wl_not rfl rfl rfl rfl rfl rfl ?_
      refine wl_not rfl rfl rfl rfl rfl rfl ?_
      refine wl_not rfl rfl rfl rfl rfl rfl ?_
      refine wl_not rfl rfl rfl rfl rfl rfl ?_
      refine wl_not rfl rfl rfl rfl rfl rfl ?_
      refine wl_not rfl rfl rfl rfl rfl rfl ?_
      refine wl_v (ov_pick_f rfl rfl) rfl rfl rfl ?_
      refine wl_v (ov_move rfl) rfl rfl rfl ?_
      refine wl_not rfl rfl rfl rfl rfl rfl ?_
      refine wl_not rfl rfl rfl rfl rfl rfl ?_
      refine wl_not rfl rfl rfl rfl rfl rfl ?_
      refine wl_not rfl rfl rfl rfl rfl rfl ?_
      refine wl_not rfl rfl rfl rfl rfl rfl ?_
      refine wl_not rfl rfl rfl rfl rfl rfl ?_
      refine wl_v (ov_pick_f rfl rfl) rfl rfl rfl ?_
      refine wl_v (ov_move rfl) rfl rfl rfl ?_
      refine wl_not rfl rfl rfl rfl rfl rfl ?_
      refine wl_not rfl rfl rfl rfl rfl rfl ?_
      refine wl_not rfl rfl rfl rfl rfl rfl ?_
      refine wl_not rfl rfl rfl rfl rfl rfl ?_
      refine wl_not rfl rfl rfl rfl rfl rfl ?_
      refine wl_not rfl rfl rfl rfl rfl rfl ?_
      refine wl_not rfl rfl rfl rfl rfl rfl ?_
      refine wl_v (ov_pick_f rfl rfl) rfl rfl rfl ?_
      refine wl_v (ov_move rfl) rfl rfl rfl ?_
      refine wl_not rfl rfl rfl rfl rfl rfl ?_
      refine wl_not rfl rfl rfl rfl rfl rfl ?_
      refine wl_not rfl rfl rfl rfl rfl rfl ?_
      refine wl_not rfl rfl rfl rfl rfl rfl ?_
      refine wl_not rfl rfl rfl rfl rfl rfl ?_
      refine wl_not rfl rfl rfl rfl rfl rfl ?_
      refine wl_not rfl rfl rfl rfl rfl rfl ?_
      refine wl_v (ov_pick_f rfl rfl) rfl rfl rfl ?_
      refine wl_v (ov_assign rfl) rfl rfl rfl ?_
      refine wl_nil ?_
      refine ce_then ?_
      refine cw_ret ?_
      refine ce_results (v := .bool false) (res1 rfl (rv_t rfl)) (fun w' hw => ?_)
      exact ⟨false, trivial, rfl, ((.nil : Keep _ _).ss hw).to_new⟩
  ·
    refine wl_v (ov_move rfl) rfl rfl rfl ?_
    refine wl_not rfl rfl rfl rfl rfl rfl ?_
    refine wl_not rfl rfl rfl rfl rfl rfl ?_
    refine wl_not rfl rfl rfl rfl rfl rfl ?_
    refine wl_not rfl rfl rfl rfl rfl rfl ?_
    refine wl_not rfl rfl rfl rfl rfl rfl ?_
    refine wl_v (ov_pick_f rfl rfl) rfl rfl rfl ?_
    refine wl_v (ov_move rfl) rfl rfl rfl ?_
    refine wl_not rfl rfl rfl rfl rfl rfl ?_
    refine wl_not rfl rfl rfl rfl rfl rfl ?_
    refine wl_not rfl rfl rfl rfl rfl rfl ?_
    refine wl_not rfl rfl rfl rfl rfl rfl ?_
    refine wl_not rfl rfl rfl rfl rfl rfl ?_
    refine wl_v (ov_pick_f rfl rfl) rfl rfl rfl ?_
    refine wl_v (ov_move rfl) rfl rfl rfl ?_
    refine wl_not rfl rfl rfl rfl rfl rfl ?_
    refine wl_not rfl rfl rfl rfl rfl rfl ?_
    refine wl_not rfl rfl rfl rfl rfl rfl ?_
    refine wl_not rfl rfl rfl rfl rfl rfl ?_
    refine wl_not rfl rfl rfl rfl rfl rfl ?_
    refine wl_v (ov_pick_f rfl rfl) rfl rfl rfl ?_
    refine wl_v (ov_move rfl) rfl rfl rfl ?_
    refine wl_not rfl rfl rfl rfl rfl rfl ?_
    refine wl_not rfl rfl rfl rfl rfl rfl ?_
    refine wl_not rfl rfl rfl rfl rfl rfl ?_
    refine wl_not rfl rfl rfl rfl rfl rfl ?_
    refine wl_not rfl rfl rfl rfl rfl rfl ?_
    refine wl_not rfl rfl rfl rfl rfl rfl ?_
    refine wl_v (ov_pick_f rfl rfl) rfl rfl rfl ?_
    refine wl_v (ov_move rfl) rfl rfl rfl ?_
    refine wl_not rfl rfl rfl rfl rfl rfl ?_
    refine wl_not rfl rfl rfl rfl rfl rfl ?_
    refine wl_not rfl rfl rfl rfl rfl rfl ?_
    refine wl_not rfl rfl rfl rfl rfl rfl ?_
    refine wl_not rfl rfl rfl rfl rfl rfl ?_
    refine wl_not rfl rfl rfl rfl rfl rfl ?_
    refine wl_v (ov_pick_f rfl rfl) rfl rfl rfl ?_
    refine wl_v (ov_move rfl) rfl rfl rfl ?_
    refine wl_not rfl rfl rfl rfl rfl rfl ?_
    refine wl_not rfl rfl rfl rfl rfl rfl ?_
    refine wl_not rfl rfl rfl rfl rfl rfl ?_
    refine wl_not rfl rfl rfl rfl rfl rfl ?_
    refine wl_not rfl rfl rfl rfl rfl rfl ?_
    refine wl_not rfl rfl rfl rfl rfl rfl ?_
    refine wl_not rfl rfl rfl rfl rfl rfl ?_
    refine wl_v (ov_pick_f rfl rfl) rfl rfl rfl ?_
    refine wl_v (ov_move rfl) rfl rfl rfl ?_
    refine wl_not rfl rfl rfl rfl rfl rfl ?_
    refine wl_not rfl rfl rfl rfl rfl rfl ?_
    refine wl_not rfl rfl rfl rfl rfl rfl ?_
    refine wl_not rfl rfl rfl rfl rfl rfl ?_
    refine wl_not rfl rfl rfl rfl rfl rfl ?_
    refine wl_not rfl rfl rfl rfl rfl rfl ?_
    refine wl_not rfl rfl rfl rfl rfl rfl ?_
    refine wl_v (ov_pick_f rfl rfl) rfl rfl rfl ?_
    refine wl_v (ov_assign rfl) rfl rfl rfl ?_
    refine wl_nil ?_
    refine ce_then ?_
    refine cw_ret ?_
    refine ce_results (v := .bool false) (res1 rfl (rv_t rfl)) (fun w' hw => ?_)
    exact ⟨false, trivial, rfl, ((.nil : Keep _ _).ss hw).to_new⟩
set_option maxRecDepth 100000 in
theorem switches_c (w : World) (N : Int) (A : Option Addr) (n : Nat) (c : Nat) (es : List (Int × Int)) (hA : At w A (cells fE es)) (eA : es.length = n) (lA : n ≤ c) (hs : es.length ≤ 100) : Calls Try.prog 126 #[.agg #[.int .i64 (N), .slice A (n) (c)]] w (Ret fun rv w' => ∃ A2 c2 qs, (qs.length ≤ c2 ∧ qs.length ≤ 20000) ∧ rv = .slice A2 (qs.length) (c2) ∧ New w w' [row 116 4 A2 (qs.length) (c2) (cells fQ qs)]) := by
  have oA := hA.atB
  subst eA
  refine fn_enter (args := [.agg #[.int .i64 (N), .slice A (es.length) (c)]]) Try.func126 rfl Try.ntmps126 rfl (SS.start w) ?_
  refine cw_seq ?_
  refine cw_region ?_
  refine wl_r (or_box rfl rfl) rfl rfl (kt1 rfl (fun g1 => ?_))
  refine wl_v (ov_assign rfl) rfl rfl rfl ?_
  refine wl_nil ?_
  refine ce_then ?_
  refine cw_seq ?_
  refine cw_region ?_
  refine wl_r (or_buildSlice (e := 116) (size := 4) (is := []) (vs := []) (cs := cells fQ ([])) rfl rfl rfl (by decide) (fun _ => by kernel_rfl)) rfl rfl (kt1 rfl (fun g10 => ?_))
  refine wl_v (ov_assign rfl) rfl rfl rfl ?_
  refine wl_nil ?_
  refine ce_then ?_
  refine cw_seq ?_
  refine cw_seq ?_
  refine cw_region ?_
  refine wl_v (ov_assign rfl) rfl rfl rfl ?_
  refine wl_nil ?_
  refine ce_then ?_
  refine cw_block ?_
  refine cw_loop4 (fun (i : Nat) (A3 : Option Addr) (c3 : Nat) (qs : List (Int × Int × Int × Int)) => [(1, elp (some ⟨g1, 0, none⟩) (0)), (2, .slice none (0) (0)), (3, .slice A3 (qs.length) (c3)), (4, .int .i64 (((i : Nat) : Int)))]) (fun (i : Nat) (A3 : Option Addr) (c3 : Nat) (qs : List (Int × Int × Int × Int)) => [row 116 4 A3 (qs.length) (c3) (cells fQ qs), blk g1 [.int .i64 (N), .slice A (es.length) (c)] 25]) (fun (i : Nat) (A3 : Option Addr) (c3 : Nat) (qs : List (Int × Int × Int × Int)) => i ≤ es.length ∧ qs.length ≤ c3 ∧ qs.length ≤ 200 * i) (fun (i : Nat) (A3 : Option Addr) (c3 : Nat) (qs : List (Int × Int × Int × Int)) => es.length - i) 0 (some ⟨g10, 0, none⟩) 0 ([]) ⟨by omega, Nat.le_refl _, by decide⟩ (.cons rfl (.cons rfl (.cons (congrArg (fun z => some (Value.slice (some ⟨g10, 0, none⟩) z 0)) (show 0 = (([]).length) from rfl)) (.cons (congrArg (fun z => some (Value.int .i64 z)) (show 0 = ((0 : Nat) : Int) by first | omega | rfl | (simp; done))) (.nil))))) (.consE (show row 116 4 (some ⟨g10, 0, none⟩) (0) (0) (cells fQ ([])) = row 116 4 (some ⟨g10, 0, none⟩) (([]).length) (0) (cells fQ ([])) by rfl) (.head) (.cons (.head) (.nil))) ?_
  intro R0 i A3 c3 qs hk hR0
  obtain ⟨hk1, hk2, hk3⟩ := hk
  refine cw_seq ?_
  refine cw_seq ?_
  refine cw_region ?_
  refine wl_v (ov_move rfl) rfl rfl rfl ?_
  refine wl_v (ov_fieldAddr fI25_1 some_lit rfl) rfl rfl rfl ?_
  refine wl_v (ov_load tI23 (holds_blk (List.Mem.tail _ (List.Mem.head _))) rfl rfl) rfl rfl rfl ?_
  refine wl_v (ov_len (sliceI_spec sI23) rfl) rfl rfl rfl ?_
  refine wl_if (ov_lss rfl rfl) rfl rfl rfl (fun c15 => ?_) (fun c15 => ?_)
  ·
    refine wl_nil ?_
    refine ce_then ?_
    refine cw_true rfl ?_
    refine cw_skip ?_
    refine ce_then ?_
    refine cw_seq ?_
    refine cw_block ?_
    refine cw_seq ?_
    refine cw_region ?_
    refine wl_v (ov_move rfl) rfl rfl rfl ?_
    refine wl_v (ov_add (r := ((i + 1 : Nat) : Int)) rfl rfl rfl (by omega)) rfl rfl rfl ?_
    refine wl_v (ov_assign rfl) rfl rfl rfl ?_
    refine wl_nil ?_
    refine ce_then ?_
    refine cw_block ?_
    refine cw_loop4 (fun (k : Nat) (A4 : Option Addr) (c4 : Nat) (rs : List (Int × Int × Int × Int)) => [(1, elp (some ⟨g1, 0, none⟩) (0)), (2, .slice none (0) (0)), (4, .int .i64 (((i : Nat) : Int))), (3, .slice A4 (rs.length) (c4)), (5, .int .i64 (((k : Nat) : Int)))]) (fun (k : Nat) (A4 : Option Addr) (c4 : Nat) (rs : List (Int × Int × Int × Int)) => [row 116 4 A4 (rs.length) (c4) (cells fQ rs), blk g1 [.int .i64 (N), .slice A (es.length) (c)] 25]) (fun (k : Nat) (A4 : Option Addr) (c4 : Nat) (rs : List (Int × Int × Int × Int)) => k ≤ es.length ∧ rs.length ≤ c4 ∧ rs.length ≤ 200 * i + 2 * k) (fun (k : Nat) (A4 : Option Addr) (c4 : Nat) (rs : List (Int × Int × Int × Int)) => es.length - k) (i + 1) A3 c3 qs ⟨by omega, hk2, by omega⟩ (.cons rfl (.cons rfl (.cons rfl (.cons rfl (.cons rfl (.nil)))))) (.cons (.head) (.cons (.head) (.nil))) ?_
    intro R1 k A4 c4 rs hk1 hR1
    obtain ⟨hj1, hj2, hj3⟩ := hk1
    refine cw_seq ?_
    refine cw_seq ?_
    refine cw_region ?_
    refine wl_v (ov_move rfl) rfl rfl rfl ?_
    refine wl_v (ov_fieldAddr fI25_1 some_lit rfl) rfl rfl rfl ?_
    refine wl_v (ov_load tI23 (holds_blk (List.Mem.tail _ (List.Mem.head _))) rfl rfl) rfl rfl rfl ?_
    refine wl_v (ov_len (sliceI_spec sI23) rfl) rfl rfl rfl ?_
    refine wl_if (ov_lss rfl rfl) rfl rfl rfl (fun c24 => ?_) (fun c24 => ?_)
    ·
      refine wl_nil ?_
      refine ce_then ?_
      refine cw_true rfl ?_
      refine cw_skip ?_
      refine ce_then ?_
      refine cw_seq ?_
      refine cw_block ?_
      refine cw_seq ?_
      refine cw_region ?_
      refine wl_v (ov_fieldAddr fI25_1 some_lit rfl) rfl rfl rfl ?_
      refine wl_v (ov_load tI23 (holds_blk (List.Mem.tail _ (List.Mem.head _))) rfl rfl) rfl rfl rfl ?_
      refine wl_v (ov_move rfl) rfl rfl rfl ?_
      refine wl_v (ov_index (k := i) (c := c) sI23 tI43 rfl rfl (some_holds (q := i * 2) (holds_old oA) (by rw [cells_length fE_len]; have hlt : i < es.length := (by omega); omega)) (show i < es.length from (by omega))) rfl rfl rfl ?_
      refine wl_v (ov_loadAgg (vs := [.int .i64 ((es.getD i (0, 0)).1), .int .i64 ((es.getD i (0, 0)).2)]) tI43 (holds_old oA) rfl (some_holds (q := i * 2) (holds_old oA) (by rw [cells_length fE_len]; have hlt : i < es.length := (by omega); omega)) (cells_elem fE_len (0, 0) (show i < es.length from (by omega))) rfl) rfl rfl rfl ?_
      refine wl_r (or_alloc tI43 rfl) rfl rfl (kt1 rfl (fun g6 => ?_))
      refine wl_r0 (or_store_blk (vs := [.int .i64 ((es.getD i (0, 0)).1), .int .i64 ((es.getD i (0, 0)).2)]) (cs' := [.int .i64 ((es.getD i (0, 0)).1), .int .i64 ((es.getD i (0, 0)).2)]) (.head) tI43 rfl rfl rfl rfl (Nat.le_of_ble_eq_true rfl) rfl) rfl rfl (kn0 ?_)
      refine wl_nil ?_
      refine ce_then ?_
      refine cw_seq ?_
      refine cw_region ?_
      refine wl_v (ov_fieldAddr fI25_1 some_lit rfl) rfl rfl rfl ?_
      refine wl_v (ov_load tI23 (holds_blk (List.Mem.tail _ (List.Mem.tail _ (List.Mem.head _)))) rfl rfl) rfl rfl rfl ?_
      refine wl_v (ov_move rfl) rfl rfl rfl ?_
      refine wl_v (ov_index (k := k) (c := c) sI23 tI43 rfl rfl (some_holds (q := k * 2) (holds_old oA) (by rw [cells_length fE_len]; have hlt : k < es.length := (by omega); omega)) (show k < es.length from (by omega))) rfl rfl rfl ?_
      refine wl_v (ov_loadAgg (vs := [.int .i64 ((es.getD k (0, 0)).1), .int .i64 ((es.getD k (0, 0)).2)]) tI43 (holds_old oA) rfl (some_holds (q := k * 2) (holds_old oA) (by rw [cells_length fE_len]; have hlt : k < es.length := (by omega); omega)) (cells_elem fE_len (0, 0) (show k < es.length from (by omega))) rfl) rfl rfl rfl ?_
      refine wl_r (or_alloc tI43 rfl) rfl rfl (kt1 rfl (fun g7 => ?_))
      refine wl_r0 (or_store_blk (vs := [.int .i64 ((es.getD k (0, 0)).1), .int .i64 ((es.getD k (0, 0)).2)]) (cs' := [.int .i64 ((es.getD k (0, 0)).1), .int .i64 ((es.getD k (0, 0)).2)]) (.head) tI43 rfl rfl rfl rfl (Nat.le_of_ble_eq_true rfl) rfl) rfl rfl (kn0 ?_)
      refine wl_nil ?_
      refine ce_then ?_
      refine cw_seq ?_
      refine cw_region ?_
      refine wl_v (ov_fieldAddr fI43_0 some_lit rfl) rfl rfl rfl ?_
      refine wl_v (ov_load tI3 (holds_blk (List.Mem.tail _ (List.Mem.head _))) rfl rfl) rfl rfl rfl ?_
      refine wl_v (ov_fieldAddr fI43_1 some_lit rfl) rfl rfl rfl ?_
      refine wl_v (ov_load tI3 (holds_blk (List.Mem.tail _ (List.Mem.head _))) rfl rfl) rfl rfl rfl ?_
      refine wl_v (ov_fieldAddr fI43_0 some_lit rfl) rfl rfl rfl ?_
      refine wl_v (ov_load tI3 (holds_blk (List.Mem.head _)) rfl rfl) rfl rfl rfl ?_
      refine wl_v (ov_fieldAddr fI43_1 some_lit rfl) rfl rfl rfl ?_
      refine wl_v (ov_load tI3 (holds_blk (List.Mem.head _)) rfl rfl) rfl rfl rfl ?_
      refine wl_v (ov_build (is := [0, 1, 2, 3]) (vs := [.int .i64 ((es.getD i (0, 0)).1), .int .i64 ((es.getD i (0, 0)).2), .int .i64 ((es.getD k (0, 0)).1), .int .i64 ((es.getD k (0, 0)).2)]) (v := .agg #[.int .i64 ((es.getD i (0, 0)).1), .int .i64 ((es.getD i (0, 0)).2), .int .i64 ((es.getD k (0, 0)).1), .int .i64 ((es.getD k (0, 0)).2)]) rfl rfl (fun _ => by kernel_rfl)) rfl rfl rfl ?_
      refine wl_r (or_alloc tI116 rfl) rfl rfl (kt1 rfl (fun g8 => ?_))
      refine wl_r0 (or_store_blk (vs := [.int .i64 ((es.getD i (0, 0)).1), .int .i64 ((es.getD i (0, 0)).2), .int .i64 ((es.getD k (0, 0)).1), .int .i64 ((es.getD k (0, 0)).2)]) (cs' := [.int .i64 ((es.getD i (0, 0)).1), .int .i64 ((es.getD i (0, 0)).2), .int .i64 ((es.getD k (0, 0)).1), .int .i64 ((es.getD k (0, 0)).2)]) (.head) tI116 rfl rfl rfl rfl (Nat.le_of_ble_eq_true rfl) rfl) rfl rfl (kn0 ?_)
      refine wl_nil ?_
      refine ce_then ?_
      refine cw_seq ?_
      refine cw_region ?_
      refine wl_v (ov_fieldAddr fI43_0 some_lit rfl) rfl rfl rfl ?_
      refine wl_v (ov_load tI3 (holds_blk (List.Mem.tail _ (List.Mem.tail _ (List.Mem.head _)))) rfl rfl) rfl rfl rfl ?_
      refine wl_v (ov_fieldAddr fI43_1 some_lit rfl) rfl rfl rfl ?_
      refine wl_v (ov_load tI3 (holds_blk (List.Mem.tail _ (List.Mem.tail _ (List.Mem.head _)))) rfl rfl) rfl rfl rfl ?_
      refine wl_v (ov_fieldAddr fI43_1 some_lit rfl) rfl rfl rfl ?_
      refine wl_v (ov_load tI3 (holds_blk (List.Mem.tail _ (List.Mem.head _))) rfl rfl) rfl rfl rfl ?_
      refine wl_v (ov_fieldAddr fI43_0 some_lit rfl) rfl rfl rfl ?_
      refine wl_v (ov_load tI3 (holds_blk (List.Mem.tail _ (List.Mem.head _))) rfl rfl) rfl rfl rfl ?_
      refine wl_v (ov_build (is := [0, 1, 2, 3]) (vs := [.int .i64 ((es.getD i (0, 0)).1), .int .i64 ((es.getD i (0, 0)).2), .int .i64 ((es.getD k (0, 0)).2), .int .i64 ((es.getD k (0, 0)).1)]) (v := .agg #[.int .i64 ((es.getD i (0, 0)).1), .int .i64 ((es.getD i (0, 0)).2), .int .i64 ((es.getD k (0, 0)).2), .int .i64 ((es.getD k (0, 0)).1)]) rfl rfl (fun _ => by kernel_rfl)) rfl rfl rfl ?_
      refine wl_r (or_alloc tI116 rfl) rfl rfl (kt1 rfl (fun g9 => ?_))
      refine wl_r0 (or_store_blk (vs := [.int .i64 ((es.getD i (0, 0)).1), .int .i64 ((es.getD i (0, 0)).2), .int .i64 ((es.getD k (0, 0)).2), .int .i64 ((es.getD k (0, 0)).1)]) (cs' := [.int .i64 ((es.getD i (0, 0)).1), .int .i64 ((es.getD i (0, 0)).2), .int .i64 ((es.getD k (0, 0)).2), .int .i64 ((es.getD k (0, 0)).1)]) (.head) tI116 rfl rfl rfl rfl (Nat.le_of_ble_eq_true rfl) rfl) rfl rfl (kn0 ?_)
      refine wl_nil ?_
      refine ce_then ?_
      refine cw_seq ?_
      refine cw_seq ?_
      refine cw_region ?_
      refine wl_v (ov_loadAgg (vs := [.int .i64 (N), .slice A (es.length) (c)]) tI25 (holds_blk (List.Mem.tail _ (List.Mem.tail _ (List.Mem.tail _ (List.Mem.tail _ (List.Mem.tail _ (List.Mem.head _))))))) rfl some_lit rfl rfl) rfl rfl rfl ?_
      refine wl_v (ov_loadAgg (vs := [.int .i64 ((es.getD i (0, 0)).1), .int .i64 ((es.getD i (0, 0)).2), .int .i64 ((es.getD k (0, 0)).1), .int .i64 ((es.getD k (0, 0)).2)]) tI116 (holds_blk (List.Mem.tail _ (List.Mem.head _))) rfl some_lit rfl rfl) rfl rfl rfl ?_
      refine wl_r (or_call (fv := []) (vs := [.agg #[.int .i64 (N), .slice A (es.length) (c)], .agg #[.int .i64 ((es.getD i (0, 0)).1), .int .i64 ((es.getD i (0, 0)).2), .int .i64 ((es.getD k (0, 0)).1), .int .i64 ((es.getD k (0, 0)).2)]]) (cs := []) en143 rfl rfl (call_x1 (fun w hw => maySwitch_c w N A es.length c es ((es.getD i (0, 0)).1) ((es.getD i (0, 0)).2) ((es.getD k (0, 0)).1) ((es.getD k (0, 0)).2) ((holds_old oA) w hw) rfl lA (by first | assumption | omega | (simp; omega))))) rfl rfl (kt1p rfl (fun b_57 h_57 => ?_))
      refine wl_nil ?_
      refine ce_then ?_
      refine ct_bool (i := 57) rfl (fun b57 => ?_) (fun b57 => ?_)
      ·
        refine cw_true rfl ?_
        refine cw_region ?_
        refine wl_v (ov_move rfl) rfl rfl rfl ?_
        refine wl_v (ov_loadAgg (vs := [.int .i64 ((es.getD i (0, 0)).1), .int .i64 ((es.getD i (0, 0)).2), .int .i64 ((es.getD k (0, 0)).1), .int .i64 ((es.getD k (0, 0)).2)]) tI116 (holds_blk (List.Mem.tail _ (List.Mem.head _))) rfl some_lit rfl rfl) rfl rfl rfl ?_
        refine wl_r (or_buildSlice (e := 116) (size := 4) (is := [0]) (vs := [.agg #[.int .i64 ((es.getD i (0, 0)).1), .int .i64 ((es.getD i (0, 0)).2), .int .i64 ((es.getD k (0, 0)).1), .int .i64 ((es.getD k (0, 0)).2)]]) (cs := cells fQ ([((es.getD i (0, 0)).1, (es.getD i (0, 0)).2, (es.getD k (0, 0)).1, (es.getD k (0, 0)).2)])) rfl rfl rfl (by decide) (fun _ => by kernel_rfl)) rfl rfl (kt1 rfl (fun g60 => ?_))
        refine wl_r (or_append (c2 := 1) sI112 tI116 rfl (by decide) rfl rfl (.tail (.tail (.tail (.tail (.tail .head))))) (holds_row (List.Mem.head _)) (by rw [cells_length fQ_len]; try simp) (one_cells fQ_one _) cells_append (by omega) (by omega)) rfl rfl (kt2p rfl (fun A61 c61 h61 => ?_))
        refine wl_v (ov_assign rfl) rfl rfl rfl ?_
        refine wl_nil ?_
        refine ce_then ?_
        refine cw_seq ?_
        refine cw_region ?_
        refine wl_v (ov_loadAgg (vs := [.int .i64 (N), .slice A (es.length) (c)]) tI25 (holds_blk (List.Mem.tail _ (List.Mem.tail _ (List.Mem.tail _ (List.Mem.tail _ (List.Mem.tail _ (List.Mem.tail _ (List.Mem.head _)))))))) rfl some_lit rfl rfl) rfl rfl rfl ?_
        refine wl_v (ov_loadAgg (vs := [.int .i64 ((es.getD i (0, 0)).1), .int .i64 ((es.getD i (0, 0)).2), .int .i64 ((es.getD k (0, 0)).2), .int .i64 ((es.getD k (0, 0)).1)]) tI116 (holds_blk (List.Mem.tail _ (List.Mem.tail _ (List.Mem.head _)))) rfl some_lit rfl rfl) rfl rfl rfl ?_
        refine wl_r (or_call (fv := []) (vs := [.agg #[.int .i64 (N), .slice A (es.length) (c)], .agg #[.int .i64 ((es.getD i (0, 0)).1), .int .i64 ((es.getD i (0, 0)).2), .int .i64 ((es.getD k (0, 0)).2), .int .i64 ((es.getD k (0, 0)).1)]]) (cs := []) en143 rfl rfl (call_x1 (fun w hw => maySwitch_c w N A es.length c es ((es.getD i (0, 0)).1) ((es.getD i (0, 0)).2) ((es.getD k (0, 0)).2) ((es.getD k (0, 0)).1) ((holds_old oA) w hw) rfl lA (by first | assumption | omega | (simp; omega))))) rfl rfl (kt1p rfl (fun b_64 h_64 => ?_))
        refine wl_nil ?_
        refine ce_then ?_
        refine ct_bool (i := 64) rfl (fun b64 => ?_) (fun b64 => ?_)
        ·
          refine cw_true rfl ?_
          refine cw_region ?_
          refine wl_v (ov_move rfl) rfl rfl rfl ?_
          refine wl_v (ov_loadAgg (vs := [.int .i64 ((es.getD i (0, 0)).1), .int .i64 ((es.getD i (0, 0)).2), .int .i64 ((es.getD k (0, 0)).2), .int .i64 ((es.getD k (0, 0)).1)]) tI116 (holds_blk (List.Mem.tail _ (List.Mem.tail _ (List.Mem.head _)))) rfl some_lit rfl rfl) rfl rfl rfl ?_
          refine wl_r (or_buildSlice (e := 116) (size := 4) (is := [0]) (vs := [.agg #[.int .i64 ((es.getD i (0, 0)).1), .int .i64 ((es.getD i (0, 0)).2), .int .i64 ((es.getD k (0, 0)).2), .int .i64 ((es.getD k (0, 0)).1)]]) (cs := cells fQ ([((es.getD i (0, 0)).1, (es.getD i (0, 0)).2, (es.getD k (0, 0)).2, (es.getD k (0, 0)).1)])) rfl rfl rfl (by decide) (fun _ => by kernel_rfl)) rfl rfl (kt1 rfl (fun g67 => ?_))
          refine wl_r (or_append (c2 := 1) sI112 tI116 rfl (by decide) rfl rfl (.tail .head) (holds_row (List.Mem.head _)) (by rw [cells_length fQ_len]; try simp) (one_cells fQ_one _) cells_append (by omega) (by omega)) rfl rfl (kt2p rfl (fun A68 c68 h68 => ?_))
          refine wl_v (ov_assign rfl) rfl rfl rfl ?_
          refine wl_nil ?_
          refine ce_block ?_
          refine ce_then ?_
          refine cw_region ?_
          refine wl_v (ov_move rfl) rfl rfl rfl ?_
          refine wl_v (ov_add (r := ((k + 1 : Nat) : Int)) rfl rfl rfl (by omega)) rfl rfl rfl ?_
          refine wl_v (ov_assign rfl) rfl rfl rfl ?_
          refine wl_nil ?_
          exact fun ac_ w_ hs_ => hR1 (k + 1) A68 c68 ((rs ++ ([((es.getD i (0, 0)).1, (es.getD i (0, 0)).2, (es.getD k (0, 0)).1, (es.getD k (0, 0)).2)])) ++ ([((es.getD i (0, 0)).1, (es.getD i (0, 0)).2, (es.getD k (0, 0)).2, (es.getD k (0, 0)).1)])) ⟨by omega, by first | omega | (simp only [List.length_append, List.length_cons, List.length_nil]; omega), by first | omega | (simp only [List.length_append, List.length_cons, List.length_nil]; omega)⟩ (by omega) ac_ w_ (hs_.weaken (.cons rfl (.cons rfl (.cons rfl (.cons (congrArg (fun z => some (Value.slice A68 z c68)) (show ((rs.length + 1) + 1) = (((rs ++ ([((es.getD i (0, 0)).1, (es.getD i (0, 0)).2, (es.getD k (0, 0)).1, (es.getD k (0, 0)).2)])) ++ ([((es.getD i (0, 0)).1, (es.getD i (0, 0)).2, (es.getD k (0, 0)).2, (es.getD k (0, 0)).1)])).length) from (by first | rfl | (simp only [List.length_append, List.length_cons, List.length_nil]; done) | (simp only [List.length_append, List.length_cons, List.length_nil]; rfl)))) (.cons rfl (.nil)))))) (.consE (show row 116 4 A68 ((rs.length + 1) + 1) (c68) (cells fQ ((rs ++ ([((es.getD i (0, 0)).1, (es.getD i (0, 0)).2, (es.getD k (0, 0)).1, (es.getD k (0, 0)).2)])) ++ ([((es.getD i (0, 0)).1, (es.getD i (0, 0)).2, (es.getD k (0, 0)).2, (es.getD k (0, 0)).1)]))) = row 116 4 A68 (((rs ++ ([((es.getD i (0, 0)).1, (es.getD i (0, 0)).2, (es.getD k (0, 0)).1, (es.getD k (0, 0)).2)])) ++ ([((es.getD i (0, 0)).1, (es.getD i (0, 0)).2, (es.getD k (0, 0)).2, (es.getD k (0, 0)).1)])).length) (c68) (cells fQ ((rs ++ ([((es.getD i (0, 0)).1, (es.getD i (0, 0)).2, (es.getD k (0, 0)).1, (es.getD k (0, 0)).2)])) ++ ([((es.getD i (0, 0)).1, (es.getD i (0, 0)).2, (es.getD k (0, 0)).2, (es.getD k (0, 0)).1)]))) by first | rfl | (simp only [List.length_append, List.length_cons, List.length_nil]; done) | (simp only [List.length_append, List.length_cons, List.length_nil]; rfl)) (.head) (.cons (.tail (.tail (.tail (.tail (.tail (.tail .head)))))) (.nil))))
        ·
          refine cw_false rfl ?_
          refine cw_skip ?_
          refine ce_block ?_
          refine ce_then ?_
          refine cw_region ?_
          refine wl_v (ov_move rfl) rfl rfl rfl ?_
          refine wl_v (ov_add (r := ((k + 1 : Nat) : Int)) rfl rfl rfl (by omega)) rfl rfl rfl ?_
          refine wl_v (ov_assign rfl) rfl rfl rfl ?_
          refine wl_nil ?_
          exact fun ac_ w_ hs_ => hR1 (k + 1) A61 c61 (rs ++ ([((es.getD i (0, 0)).1, (es.getD i (0, 0)).2, (es.getD k (0, 0)).1, (es.getD k (0, 0)).2)])) ⟨by omega, by first | omega | (simp only [List.length_append, List.length_cons, List.length_nil]; omega), by first | omega | (simp only [List.length_append, List.length_cons, List.length_nil]; omega)⟩ (by omega) ac_ w_ (hs_.weaken (.cons rfl (.cons rfl (.cons rfl (.cons (congrArg (fun z => some (Value.slice A61 z c61)) (show (rs.length + 1) = ((rs ++ ([((es.getD i (0, 0)).1, (es.getD i (0, 0)).2, (es.getD k (0, 0)).1, (es.getD k (0, 0)).2)])).length) from (by first | rfl | (simp only [List.length_append, List.length_cons, List.length_nil]; done) | (simp only [List.length_append, List.length_cons, List.length_nil]; rfl)))) (.cons rfl (.nil)))))) (.consE (show row 116 4 A61 (rs.length + 1) (c61) (cells fQ (rs ++ ([((es.getD i (0, 0)).1, (es.getD i (0, 0)).2, (es.getD k (0, 0)).1, (es.getD k (0, 0)).2)]))) = row 116 4 A61 ((rs ++ ([((es.getD i (0, 0)).1, (es.getD i (0, 0)).2, (es.getD k (0, 0)).1, (es.getD k (0, 0)).2)])).length) (c61) (cells fQ (rs ++ ([((es.getD i (0, 0)).1, (es.getD i (0, 0)).2, (es.getD k (0, 0)).1, (es.getD k (0, 0)).2)]))) by first | rfl | (simp only [List.length_append, List.length_cons, List.length_nil]; done) | (simp only [List.length_append, List.length_cons, List.length_nil]; rfl)) (.head) (.cons (.tail (.tail (.tail (.tail (.tail .head))))) (.nil))))
      ·
        refine cw_false rfl ?_
        refine cw_skip ?_
        refine ce_then ?_
        refine cw_seq ?_
        refine cw_region ?_
        refine wl_v (ov_loadAgg (vs := [.int .i64 (N), .slice A (es.length) (c)]) tI25 (holds_blk (List.Mem.tail _ (List.Mem.tail _ (List.Mem.tail _ (List.Mem.tail _ (List.Mem.tail _ (List.Mem.head _))))))) rfl some_lit rfl rfl) rfl rfl rfl ?_
        refine wl_v (ov_loadAgg (vs := [.int .i64 ((es.getD i (0, 0)).1), .int .i64 ((es.getD i (0, 0)).2), .int .i64 ((es.getD k (0, 0)).2), .int .i64 ((es.getD k (0, 0)).1)]) tI116 (holds_blk (List.Mem.head _)) rfl some_lit rfl rfl) rfl rfl rfl ?_
        refine wl_r (or_call (fv := []) (vs := [.agg #[.int .i64 (N), .slice A (es.length) (c)], .agg #[.int .i64 ((es.getD i (0, 0)).1), .int .i64 ((es.getD i (0, 0)).2), .int .i64 ((es.getD k (0, 0)).2), .int .i64 ((es.getD k (0, 0)).1)]]) (cs := []) en143 rfl rfl (call_x1 (fun w hw => maySwitch_c w N A es.length c es ((es.getD i (0, 0)).1) ((es.getD i (0, 0)).2) ((es.getD k (0, 0)).2) ((es.getD k (0, 0)).1) ((holds_old oA) w hw) rfl lA (by first | assumption | omega | (simp; omega))))) rfl rfl (kt1p rfl (fun b_64 h_64 => ?_))
        refine wl_nil ?_
        refine ce_then ?_
        refine ct_bool (i := 64) rfl (fun b64 => ?_) (fun b64 => ?_)
        ·
          refine cw_true rfl ?_
          refine cw_region ?_
          refine wl_v (ov_move rfl) rfl rfl rfl ?_
          refine wl_v (ov_loadAgg (vs := [.int .i64 ((es.getD i (0, 0)).1), .int .i64 ((es.getD i (0, 0)).2), .int .i64 ((es.getD k (0, 0)).2), .int .i64 ((es.getD k (0, 0)).1)]) tI116 (holds_blk (List.Mem.head _)) rfl some_lit rfl rfl) rfl rfl rfl ?_
          refine wl_r (or_buildSlice (e := 116) (size := 4) (is := [0]) (vs := [.agg #[.int .i64 ((es.getD i (0, 0)).1), .int .i64 ((es.getD i (0, 0)).2), .int .i64 ((es.getD k (0, 0)).2), .int .i64 ((es.getD k (0, 0)).1)]]) (cs := cells fQ ([((es.getD i (0, 0)).1, (es.getD i (0, 0)).2, (es.getD k (0, 0)).2, (es.getD k (0, 0)).1)])) rfl rfl rfl (by decide) (fun _ => by kernel_rfl)) rfl rfl (kt1 rfl (fun g67 => ?_))
          refine wl_r (or_append (c2 := 1) sI112 tI116 rfl (by decide) rfl rfl (.tail (.tail (.tail (.tail (.tail .head))))) (holds_row (List.Mem.head _)) (by rw [cells_length fQ_len]; try simp) (one_cells fQ_one _) cells_append (by omega) (by omega)) rfl rfl (kt2p rfl (fun A68 c68 h68 => ?_))
          refine wl_v (ov_assign rfl) rfl rfl rfl ?_
          refine wl_nil ?_
          refine ce_block ?_
          refine ce_then ?_
          refine cw_region ?_
          refine wl_v (ov_move rfl) rfl rfl rfl ?_
          refine wl_v (ov_add (r := ((k + 1 : Nat) : Int)) rfl rfl rfl (by omega)) rfl rfl rfl ?_
          refine wl_v (ov_assign rfl) rfl rfl rfl ?_
          refine wl_nil ?_
          exact fun ac_ w_ hs_ => hR1 (k + 1) A68 c68 (rs ++ ([((es.getD i (0, 0)).1, (es.getD i (0, 0)).2, (es.getD k (0, 0)).2, (es.getD k (0, 0)).1)])) ⟨by omega, by first | omega | (simp only [List.length_append, List.length_cons, List.length_nil]; omega), by first | omega | (simp only [List.length_append, List.length_cons, List.length_nil]; omega)⟩ (by omega) ac_ w_ (hs_.weaken (.cons rfl (.cons rfl (.cons rfl (.cons (congrArg (fun z => some (Value.slice A68 z c68)) (show (rs.length + 1) = ((rs ++ ([((es.getD i (0, 0)).1, (es.getD i (0, 0)).2, (es.getD k (0, 0)).2, (es.getD k (0, 0)).1)])).length) from (by first | rfl | (simp only [List.length_append, List.length_cons, List.length_nil]; done) | (simp only [List.length_append, List.length_cons, List.length_nil]; rfl)))) (.cons rfl (.nil)))))) (.consE (show row 116 4 A68 (rs.length + 1) (c68) (cells fQ (rs ++ ([((es.getD i (0, 0)).1, (es.getD i (0, 0)).2, (es.getD k (0, 0)).2, (es.getD k (0, 0)).1)]))) = row 116 4 A68 ((rs ++ ([((es.getD i (0, 0)).1, (es.getD i (0, 0)).2, (es.getD k (0, 0)).2, (es.getD k (0, 0)).1)])).length) (c68) (cells fQ (rs ++ ([((es.getD i (0, 0)).1, (es.getD i (0, 0)).2, (es.getD k (0, 0)).2, (es.getD k (0, 0)).1)]))) by first | rfl | (simp only [List.length_append, List.length_cons, List.length_nil]; done) | (simp only [List.length_append, List.length_cons, List.length_nil]; rfl)) (.head) (.cons (.tail (.tail (.tail (.tail (.tail .head))))) (.nil))))
        ·
          refine cw_false rfl ?_
          refine cw_skip ?_
          refine ce_block ?_
          refine ce_then ?_
          refine cw_region ?_
          refine wl_v (ov_move rfl) rfl rfl rfl ?_
          refine wl_v (ov_add (r := ((k + 1 : Nat) : Int)) rfl rfl rfl (by omega)) rfl rfl rfl ?_
          refine wl_v (ov_assign rfl) rfl rfl rfl ?_
          refine wl_nil ?_
          exact fun ac_ w_ hs_ => hR1 (k + 1) A4 c4 rs ⟨by omega, by first | omega | (simp only [List.length_append, List.length_cons, List.length_nil]; omega), by first | omega | (simp only [List.length_append, List.length_cons, List.length_nil]; omega)⟩ (by omega) ac_ w_ (hs_.weaken (.cons rfl (.cons rfl (.cons rfl (.cons (congrArg (fun z => some (Value.slice A4 z c4)) (show rs.length = rs.length from (by first | rfl | (simp only [List.length_append, List.length_cons, List.length_nil]; done) | (simp only [List.length_append, List.length_cons, List.length_nil]; rfl)))) (.cons rfl (.nil)))))) (.cons (.tail (.tail (.tail (.tail .head)))) (.cons (.tail (.tail (.tail (.tail .head)))) (.nil))))
    ·
      refine wl_nil ?_
      refine ce_then ?_
      refine cw_false rfl ?_
      refine cw_exit ?_
      refine ce_then_exit ?_
      refine ce_then_exit ?_
      refine ce_hit ?_
      refine ce_block ?_
      refine ce_then ?_
      refine cw_region ?_
      refine wl_v (ov_move rfl) rfl rfl rfl ?_
      refine wl_v (ov_add (r := ((i + 1 : Nat) : Int)) rfl rfl rfl (by omega)) rfl rfl rfl ?_
      refine wl_v (ov_assign rfl) rfl rfl rfl ?_
      refine wl_nil ?_
      exact fun ac_ w_ hs_ => hR0 (i + 1) A4 c4 rs ⟨by omega, hj2, by omega⟩ (by omega) ac_ w_ (hs_.weaken (.cons rfl (.cons rfl (.cons rfl (.cons rfl (.nil))))) (.cons (.head) (.cons (.head) (.nil))))
  ·
    refine wl_nil ?_
    refine ce_then ?_
    refine cw_false rfl ?_
    refine cw_exit ?_
    refine ce_then_exit ?_
    refine ce_then_exit ?_
    refine ce_hit ?_
    refine ce_then ?_
    refine cw_seq ?_
    refine cw_region ?_
    refine wl_v (ov_move rfl) rfl rfl rfl ?_
    refine wl_v (ov_assign rfl) rfl rfl rfl ?_
    refine wl_nil ?_
    refine ce_then ?_
    refine cw_ret ?_
    refine ce_results (v := .slice A3 (qs.length) (c3)) (res1 rfl (rv_t rfl)) (fun w' hw => ?_)
    exact ⟨A3, c3, qs, ⟨hk2, by omega⟩, rfl, ((.cons (.head) (.nil) : Keep _ _).ss hw).to_new⟩
set_option maxRecDepth 100000 in
theorem switched_c (w : World) (N : Int) (A : Option Addr) (n : Nat) (c : Nat) (es : List (Int × Int)) (s1 : Int) (s2 : Int) (s3 : Int) (s4 : Int) (hA : At w A (cells fE es)) (eA : es.length = n) (lA : n ≤ c) (hs : es.length ≤ 900) : Calls Try.prog 127 #[.agg #[.int .i64 (N), .slice A (n) (c)], .agg #[.int .i64 (s1), .int .i64 (s2), .int .i64 (s3), .int .i64 (s4)]] w (Ret fun rv w' => ∃ A2 c2 fs, (fs.length ≤ c2 ∧ fs.length ≤ es.length + 2) ∧ rv = .agg #[.int .i64 (N), .slice A2 (fs.length) (c2)] ∧ New w w' [row 43 2 A2 (fs.length) (c2) (cells fE fs)]) := by
  have oA := hA.atB
  subst eA
  refine fn_enter (args := [.agg #[.int .i64 (N), .slice A (es.length) (c)], .agg #[.int .i64 (s1), .int .i64 (s2), .int .i64 (s3), .int .i64 (s4)]]) Try.func127 rfl Try.ntmps127 rfl (SS.start w) ?_
  refine cw_seq ?_
  refine cw_region ?_
  refine wl_r (or_box rfl rfl) rfl rfl (kt1 rfl (fun g2 => ?_))
  refine wl_r (or_box rfl rfl) rfl rfl (kt1 rfl (fun g3 => ?_))
  refine wl_r (or_alloc tI25 rfl) rfl rfl (kt1 rfl (fun g4 => ?_))
  refine wl_nil ?_
  refine ce_then ?_
  refine cw_seq ?_
  refine cw_draw mixO [] (.cons (.tail .head) (.cons (.tail .head) (.nil))) rfl ?_
  refine wg_take (i := 0) rfl (ov_loadAgg (vs := [.int .i64 (N), .slice A (es.length) (c)]) tI25 (holds_blk (List.Mem.tail _ (List.Mem.head _))) rfl some_lit rfl rfl) rfl rfl rfl (by kernel_rfl) (by kernel_rfl) (by kernel_rfl) (by kernel_rfl) ?_
  refine wg_take (i := 1) rfl (ov_fieldAddr fI116_0 some_lit rfl) rfl rfl rfl (by kernel_rfl) (by kernel_rfl) (by kernel_rfl) (by kernel_rfl) ?_
  refine wg_take (i := 2) rfl (ov_load tI3 (holds_blk (List.Mem.head _)) rfl rfl) rfl rfl rfl (by kernel_rfl) (by kernel_rfl) (by kernel_rfl) (by kernel_rfl) ?_
  refine wg_take (i := 3) rfl (ov_fieldAddr fI116_1 some_lit rfl) rfl rfl rfl (by kernel_rfl) (by kernel_rfl) (by kernel_rfl) (by kernel_rfl) ?_
  refine wg_take (i := 4) rfl (ov_load tI3 (holds_blk (List.Mem.head _)) rfl rfl) rfl rfl rfl (by kernel_rfl) (by kernel_rfl) (by kernel_rfl) (by kernel_rfl) ?_
  refine wg_take (i := 6) rfl (ov_fieldAddr fI116_2 some_lit rfl) rfl rfl rfl (by kernel_rfl) (by kernel_rfl) (by kernel_rfl) (by kernel_rfl) ?_
  refine wg_take (i := 7) rfl (ov_load tI3 (holds_blk (List.Mem.head _)) rfl rfl) rfl rfl rfl (by kernel_rfl) (by kernel_rfl) (by kernel_rfl) (by kernel_rfl) ?_
  refine wg_take (i := 8) rfl (ov_fieldAddr fI116_3 some_lit rfl) rfl rfl rfl (by kernel_rfl) (by kernel_rfl) (by kernel_rfl) (by kernel_rfl) ?_
  refine wg_take (i := 9) rfl (ov_load tI3 (holds_blk (List.Mem.head _)) rfl rfl) rfl rfl rfl (by kernel_rfl) (by kernel_rfl) (by kernel_rfl) (by kernel_rfl) ?_
  refine wg_take (i := 11) rfl (ov_fieldAddr fI116_0 some_lit rfl) rfl rfl rfl (by kernel_rfl) (by kernel_rfl) (by kernel_rfl) (by kernel_rfl) ?_
  refine wg_take (i := 12) rfl (ov_load tI3 (holds_blk (List.Mem.head _)) rfl rfl) rfl rfl rfl (by kernel_rfl) (by kernel_rfl) (by kernel_rfl) (by kernel_rfl) ?_
  refine wg_take (i := 13) rfl (ov_fieldAddr fI116_2 some_lit rfl) rfl rfl rfl (by kernel_rfl) (by kernel_rfl) (by kernel_rfl) (by kernel_rfl) ?_
  refine wg_take (i := 14) rfl (ov_load tI3 (holds_blk (List.Mem.head _)) rfl rfl) rfl rfl rfl (by kernel_rfl) (by kernel_rfl) (by kernel_rfl) (by kernel_rfl) ?_
  refine wg_take (i := 16) rfl (ov_fieldAddr fI116_1 some_lit rfl) rfl rfl rfl (by kernel_rfl) (by kernel_rfl) (by kernel_rfl) (by kernel_rfl) ?_
  refine wg_take (i := 17) rfl (ov_load tI3 (holds_blk (List.Mem.head _)) rfl rfl) rfl rfl rfl (by kernel_rfl) (by kernel_rfl) (by kernel_rfl) (by kernel_rfl) ?_
  refine wg_take (i := 18) rfl (ov_fieldAddr fI116_3 some_lit rfl) rfl rfl rfl (by kernel_rfl) (by kernel_rfl) (by kernel_rfl) (by kernel_rfl) ?_
  refine wg_take (i := 19) rfl (ov_load tI3 (holds_blk (List.Mem.head _)) rfl rfl) rfl rfl rfl (by kernel_rfl) (by kernel_rfl) (by kernel_rfl) (by kernel_rfl) ?_
  refine wg_one (i := 5) (by kernel_rfl) ?_
  refine go_r rfl rfl rfl rfl (or_call (fv := []) (vs := [.agg #[.int .i64 (N), .slice A (es.length) (c)], .int .i64 (s1), .int .i64 (s2)]) (cs := []) en144 rfl rfl (call_x3 (fun w hw => dropEdge_c w N A es.length c es s1 s2 ((holds_old oA) w hw) rfl lA (by omega)))) (kt3p rfl (fun A2_10 c2_10 fs_10 h_10 => ?_))
  refine gk (.cons (.tail (.tail .head)) (.cons (.tail (.tail .head)) (.nil))) ?_
  refine wg_one (i := 10) (by kernel_rfl) ?_
  refine go_r rfl rfl rfl rfl (or_call (fv := []) (vs := [.agg #[.int .i64 (N), .slice A2_10 (fs_10.length) (c2_10)], .int .i64 (s3), .int .i64 (s4)]) (cs := []) en144 rfl rfl (call_x3 (fun w hw => dropEdge_c w N A2_10 fs_10.length c2_10 fs_10 s3 s4 ((holds_row (List.Mem.head _)) w hw) rfl h_10.1 (by omega)))) (kt3p rfl (fun A2_15 c2_15 fs_15 h_15 => ?_))
  refine gk (.cons (.tail (.tail (.tail .head))) (.cons (.tail (.tail (.tail .head))) (.nil))) ?_
  refine wg_one (i := 15) (by kernel_rfl) ?_
  refine go_r rfl rfl rfl rfl (or_call (fv := []) (vs := [.agg #[.int .i64 (N), .slice A2_15 (fs_15.length) (c2_15)], .int .i64 (s1), .int .i64 (s3)]) (cs := []) en128 rfl rfl (call_x3 (fun w hw => addEdgeG_c w N A2_15 fs_15.length c2_15 fs_15 s1 s3 ((holds_row (List.Mem.head _)) w hw) rfl h_15.1 (by omega)))) (kt3p rfl (fun A2_20 c2_20 fs_20 h_20 => ?_))
  refine gk (.cons (.tail (.tail (.tail (.tail .head)))) (.cons (.tail (.tail (.tail (.tail .head)))) (.nil))) ?_
  refine wg_one (i := 20) (by kernel_rfl) ?_
  refine go_r rfl rfl rfl rfl (or_call (fv := []) (vs := [.agg #[.int .i64 (N), .slice A2_20 (fs_20.length) (c2_20)], .int .i64 (s2), .int .i64 (s4)]) (cs := []) en128 rfl rfl (call_x3 (fun w hw => addEdgeG_c w N A2_20 fs_20.length c2_20 fs_20 s2 s4 ((holds_row (List.Mem.head _)) w hw) rfl h_20.1 (by omega)))) (kt3p rfl (fun A2_25 c2_25 fs_25 h_25 => ?_))
  refine gk (.cons (.tail (.tail (.tail (.tail (.tail .head))))) (.cons (.tail (.tail (.tail (.tail (.tail .head))))) (.nil))) ?_
  refine wg_one (i := 21) (by kernel_rfl) ?_
  refine go_r0 rfl rfl rfl rfl (or_store_blk (vs := [.int .i64 (N), .slice A2_25 (fs_25.length) (c2_25)]) (cs' := [.int .i64 (N), .slice A2_25 (fs_25.length) (c2_25)]) (.tail (.tail (.tail (.tail .head)))) tI25 rfl rfl rfl rfl (Nat.le_of_ble_eq_true rfl) rfl) (kn0 ?_)
  refine gk (.cons (.tail (.tail (.tail (.tail (.tail .head))))) (.cons (.tail (.tail (.tail (.tail (.tail .head))))) (.nil))) ?_
  refine wg_done (by kernel_rfl) ?_
  refine ce_then ?_
  refine cw_ret ?_
  refine ce_results (v := .agg #[.int .i64 (N), .slice A2_25 (fs_25.length) (c2_25)]) (res1 rfl (rv_c rfl tI25 rfl (List.Mem.head _))) (fun w' hw => ?_)
  exact ⟨A2_25, c2_25, fs_25, ⟨h_25.1, by omega⟩, rfl, ((.cons (.tail .head) (.nil) : Keep _ _).ss hw).to_new⟩
set_option maxRecDepth 100000 in
theorem moved_c (w w0 : World) (Bd : Nat) (F : List Ent) (m : Nat) (A1 : Option Addr) (n1 : Nat) (c1 : Nat) (es : List (Int × Int)) (g : Nat) (Ar : Option Addr) (nr : Nat) (cr : Nat) (bs : List Nat) (p : Nat) (hA1 : Holds (SS w0 Bd F) A1 (cells fE es)) (eA1 : es.length = n1) (lA1 : n1 ≤ c1) (hAr : Holds (SS w0 Bd F) Ar (cells fY bs)) (eAr : bs.length = nr) (lAr : nr ≤ cr) (hy : nr ≤ 2000 ∧ (∀ x ∈ bs, x < 256) ∧ p ≤ 90000) (hg : Gr m es) (hm : m ≤ 5) (hss : SS w0 Bd ((blk g [.slice Ar (nr) (cr), .int .i64 (((p : Nat) : Int))] 99) :: F) w) : Calls Try.prog 81 #[elp (some ⟨g, 0, none⟩) (0), .agg #[.int .i64 (((m : Nat) : Int)), .slice A1 (n1) (c1)]] w (Ret fun rv w' => ∃ A2 c2 fs q, ((fs.length ≤ c2 ∧ fs.length = es.length) ∧ p ≤ q ∧ q ≤ p + 10) ∧ rv = .agg #[.int .i64 (((m : Nat) : Int)), .slice A2 (fs.length) (c2)] ∧ SS w0 Bd ((row 43 2 A2 (fs.length) (c2) (cells fE fs)) :: (blk g [.slice Ar (nr) (cr), .int .i64 (((q : Nat) : Int))] 99) :: F) w') := by
  subst eA1
  have hel : es.length ≤ 100 := hg.len (by omega)
  refine fn_enter (args := [elp (some ⟨g, 0, none⟩) (0), .agg #[.int .i64 (((m : Nat) : Int)), .slice A1 (es.length) (c1)]]) Try.func81 rfl Try.ntmps81 rfl hss ?_
  refine cw_seq ?_
  refine cw_region ?_
  refine wl_r (or_box rfl rfl) rfl rfl (kt1 rfl (fun g3 => ?_))
  refine wl_r (or_alloc tI25 rfl) rfl rfl (kt1 rfl (fun g4 => ?_))
  refine wl_nil ?_
  refine ce_then ?_
  refine cw_seq ?_
  refine cw_region ?_
  refine wl_r (or_buildSlice (e := 3) (size := 1) (is := []) (vs := []) (cs := cells fI ([])) rfl rfl rfl (by decide) (fun _ => by kernel_rfl)) rfl rfl (kt1 rfl (fun g12 => ?_))
  refine wl_v (ov_assign rfl) rfl rfl rfl ?_
  refine wl_nil ?_
  refine ce_then ?_
  refine cw_seq ?_
  refine cw_seq ?_
  refine cw_region ?_
  refine wl_v (ov_assign rfl) rfl rfl rfl ?_
  refine wl_nil ?_
  refine ce_then ?_
  refine cw_block ?_
  refine cw_loop3 (fun (v : Nat) (A3 : Option Addr) (c3 : Nat) => [(0, elp (some ⟨g, 0, none⟩) (0)), (3, elp (some ⟨g3, 0, none⟩) (0)), (4, elp (some ⟨g4, 0, none⟩) (0)), (5, .slice A3 (v) (c3)), (6, .int .i64 (((v : Nat) : Int)))]) (fun (v : Nat) (A3 : Option Addr) (c3 : Nat) => (row 3 1 A3 (v) (c3) (cells fI (ids v))) :: (blk g4 [.int .i64 (0), .slice none (0) (0)] 25) :: (blk g3 [.int .i64 (((m : Nat) : Int)), .slice A1 (es.length) (c1)] 25) :: (blk g [.slice Ar (nr) (cr), .int .i64 (((p : Nat) : Int))] 99) :: F) (fun (v : Nat) (A3 : Option Addr) (c3 : Nat) => v ≤ m ∧ v ≤ c3) (fun (v : Nat) (A3 : Option Addr) (c3 : Nat) => m - v) 0 (some ⟨g12, 0, none⟩) 0 ⟨by omega, Nat.le_refl _⟩ (.cons rfl (.cons rfl (.cons rfl (.cons rfl (.cons (congrArg (fun z => some (Value.int .i64 z)) (show 0 = ((0 : Nat) : Int) by first | omega | rfl | (simp; done))) (.nil)))))) (.consE (show row 3 1 (some ⟨g12, 0, none⟩) (0) (0) (cells fI ([])) = row 3 1 (some ⟨g12, 0, none⟩) (0) (0) (cells fI (ids 0)) by rfl) (.head) (.cons (.head) (.cons (.head) (.cons (.head) (.refl))))) ?_
  intro R0 v A3 c3 hk hR0
  obtain ⟨hk1, hk2⟩ := hk
  refine cw_seq ?_
  refine cw_seq ?_
  refine cw_region ?_
  refine wl_v (ov_move rfl) rfl rfl rfl ?_
  refine wl_v (ov_fieldAddr fI25_0 some_lit rfl) rfl rfl rfl ?_
  refine wl_v (ov_load tI3 (holds_blk (List.Mem.tail _ (List.Mem.tail _ (List.Mem.head _)))) rfl rfl) rfl rfl rfl ?_
  refine wl_if (ov_lss rfl rfl) rfl rfl rfl (fun c16 => ?_) (fun c16 => ?_)
  ·
    refine wl_nil ?_
    refine ce_then ?_
    refine cw_true rfl ?_
    refine cw_skip ?_
    refine ce_then ?_
    refine cw_seq ?_
    refine cw_block ?_
    refine cw_region ?_
    refine wl_v (ov_move rfl) rfl rfl rfl ?_
    refine wl_v (ov_move rfl) rfl rfl rfl ?_
    refine wl_r (or_buildSlice (e := 3) (size := 1) (is := [0]) (vs := [.int .i64 (((v : Nat) : Int))]) (cs := cells fI ([((v : Nat) : Int)])) rfl rfl rfl (by decide) (fun _ => by kernel_rfl)) rfl rfl (kt1 rfl (fun g21 => ?_))
    refine wl_r (or_append (c2 := 1) sI31 tI3 rfl (by decide) rfl rfl (.tail .head) (holds_row (List.Mem.head _)) (by rw [cells_length fI_len]; try simp) (one_cells fI_one _) cells_append (by omega) (by omega)) rfl rfl (kt2p rfl (fun A22 c22 h22 => ?_))
    refine wl_v (ov_assign rfl) rfl rfl rfl ?_
    refine wl_nil ?_
    refine ce_block ?_
    refine ce_then ?_
    refine cw_region ?_
    refine wl_v (ov_move rfl) rfl rfl rfl ?_
    refine wl_v (ov_add (r := ((v + 1 : Nat) : Int)) rfl rfl rfl (by omega)) rfl rfl rfl ?_
    refine wl_v (ov_assign rfl) rfl rfl rfl ?_
    refine wl_nil ?_
    exact fun ac_ w_ hs_ => hR0 (v + 1) A22 c22 ⟨by omega, h22⟩ (by omega) ac_ w_ (hs_.weaken (.cons rfl (.cons rfl (.cons rfl (.cons rfl (.cons rfl (.nil)))))) (.consE (show row 3 1 A22 (v + 1) (c22) (cells fI ((ids v) ++ ([((v : Nat) : Int)]))) = row 3 1 A22 ((v + 1)) (c22) (cells fI (ids (v + 1))) by rw [ids_succ] <;> rfl) (.head) (.cons (.tail .head) (.cons (.tail .head) (.cons (.tail .head) ((.drop .refl)))))))
  ·
    refine wl_nil ?_
    refine ce_then ?_
    refine cw_false rfl ?_
    refine cw_exit ?_
    refine ce_then_exit ?_
    refine ce_then_exit ?_
    refine ce_hit ?_
    refine ce_then ?_
    refine cw_seq ?_
    refine cw_seq ?_
    refine cw_region ?_
    refine wl_v (ov_assign rfl) rfl rfl rfl ?_
    refine wl_nil ?_
    refine ce_then ?_
    refine cw_block ?_
    refine cw_loop3 (fun (k : Nat) (ys : List Int) (q : Nat) => [(0, elp (some ⟨g, 0, none⟩) (0)), (3, elp (some ⟨g3, 0, none⟩) (0)), (4, elp (some ⟨g4, 0, none⟩) (0)), (5, .slice A3 (v) (c3)), (7, .int .i64 (((k : Nat) : Int)))]) (fun (k : Nat) (ys : List Int) (q : Nat) => (row 3 1 A3 (v) (c3) (cells fI ys)) :: (blk g4 [.int .i64 (0), .slice none (0) (0)] 25) :: (blk g3 [.int .i64 (((m : Nat) : Int)), .slice A1 (es.length) (c1)] 25) :: (blk g [.slice Ar (nr) (cr), .int .i64 (((q : Nat) : Int))] 99) :: F) (fun (k : Nat) (ys : List Int) (q : Nat) => k ≤ m ∧ ys.length = v ∧ p ≤ q ∧ q ≤ p + k) (fun (k : Nat) (ys : List Int) (q : Nat) => m - k) 0 (ids v) p ⟨by omega, ids_length v, by omega, by omega⟩ (.cons rfl (.cons rfl (.cons rfl (.cons rfl (.cons (congrArg (fun z => some (Value.int .i64 z)) (show 0 = ((0 : Nat) : Int) by first | omega | rfl | (simp; done))) (.nil)))))) (.cons (.head) (.cons (.head) (.cons (.head) (.cons (.head) (.refl))))) ?_
    intro R1 k ys q hk1 hR1
    obtain ⟨hj1, hj2, hj3, hj4⟩ := hk1
    refine cw_seq ?_
    refine cw_seq ?_
    refine cw_region ?_
    refine wl_v (ov_move rfl) rfl rfl rfl ?_
    refine wl_v (ov_fieldAddr fI25_0 some_lit rfl) rfl rfl rfl ?_
    refine wl_v (ov_load tI3 (holds_blk (List.Mem.tail _ (List.Mem.tail _ (List.Mem.head _)))) rfl rfl) rfl rfl rfl ?_
    refine wl_if (ov_lss rfl rfl) rfl rfl rfl (fun c26 => ?_) (fun c26 => ?_)
    ·
      refine wl_nil ?_
      refine ce_then ?_
      refine cw_true rfl ?_
      refine cw_skip ?_
      refine ce_then ?_
      refine cw_seq ?_
      refine cw_block ?_
      refine cw_seq ?_
      refine cw_region ?_
      refine wl_v (ov_move rfl) rfl rfl rfl ?_
      refine wl_v (ov_fieldAddr fI25_0 some_lit rfl) rfl rfl rfl ?_
      refine wl_v (ov_load tI3 (holds_blk (List.Mem.tail _ (List.Mem.tail _ (List.Mem.head _)))) rfl rfl) rfl rfl rfl ?_
      refine wl_r (or_call (fv := []) (vs := [elp (some ⟨g, 0, none⟩) (0), .int .i64 (((m : Nat) : Int))]) (cs := []) en50 rfl rfl (call_o (.cons (.tail (.tail (.tail .head))) (.cons (.head) (.cons (.head) (.cons (.head) (.refl))))) (fun w hw => pick_c w _ _ _ ((m : Nat) : Int) g Ar nr cr bs q (Holds.keepF hAr ((.drop (.drop (.drop .refl))))) (by first | rfl | assumption | (simp; done) | (simp; omega)) lAr ⟨hy.1, hy.2.1, by omega⟩ (by first | assumption | omega | (simp; omega)) hw))) rfl rfl (kt1p rfl (fun v_32 h_32 => ?_))
      have h32 : 0 ≤ v_32 ∧ v_32 < (m : Int) := (by first | omega | (simp at h_32; omega))
      refine wl_v (ov_assign rfl) rfl rfl rfl ?_
      refine wl_nil ?_
      refine ce_then ?_
      refine cw_seq ?_
      refine cw_region ?_
      refine wl_v (ov_move rfl) rfl rfl rfl ?_
      refine wl_v (ov_move rfl) rfl rfl rfl ?_
      refine wl_v (ov_index (k := k) (c := c3) sI31 tI3 rfl rfl (some_holds (q := k * 1) (holds_row (List.Mem.tail _ (List.Mem.head _))) (by rw [cells_length fI_len]; have hlt : k < ys.length := (by omega); omega)) (show k < v from (by omega))) rfl rfl rfl ?_
      refine wl_v (ov_load tI3 (holds_row (List.Mem.tail _ (List.Mem.head _))) rfl (get_fI (show k < ys.length from (by omega)))) rfl rfl rfl ?_
      refine wl_v (ov_assign rfl) rfl rfl rfl ?_
      refine wl_nil ?_
      refine ce_then ?_
      refine cw_seq ?_
      refine cw_region ?_
      refine wl_v (ov_move rfl) rfl rfl rfl ?_
      refine wl_v (ov_move rfl) rfl rfl rfl ?_
      refine wl_v (ov_move rfl) rfl rfl rfl ?_
      refine wl_v (ov_move rfl) rfl rfl rfl ?_
      refine wl_v (ov_indexg sI31 tI3 rfl rfl (some_holds (q := v_32.toNat * 1) (holds_row (List.Mem.tail _ (List.Mem.head _))) (by rw [cells_length fI_len]; have hlt : v_32.toNat < ys.length := (by omega); omega)) (by omega) (show v_32.toNat < v from (by omega))) rfl rfl rfl ?_
      refine wl_v (ov_load tI3 (holds_row (List.Mem.tail _ (List.Mem.head _))) rfl (get_fI (show v_32.toNat < ys.length from (by omega)))) rfl rfl rfl ?_
      refine wl_v (ov_index (k := k) (c := c3) sI31 tI3 rfl rfl (some_holds (q := k * 1) (holds_row (List.Mem.tail _ (List.Mem.head _))) (by rw [cells_length fI_len]; have hlt : k < ys.length := (by omega); omega)) (show k < v from (by omega))) rfl rfl rfl ?_
      refine wl_r0 (or_store_row (vs := [.int .i64 ((ys.getD v_32.toNat 0))]) (cs' := cells fI (ys.set k (ys.getD v_32.toNat 0))) (.tail .head) tI3 rfl rfl rfl rfl (by rw [cells_length fI_len]; have hlt := (show k < ys.length from (by omega)); simp only [List.length_cons, List.length_nil]; omega) (by simp) (cells_splice fI_len (show k < ys.length from (by omega)) (ys.getD v_32.toNat 0))) rfl rfl (kn0 ?_)
      refine wl_nil ?_
      refine ce_then ?_
      refine cw_region ?_
      refine wl_v (ov_move rfl) rfl rfl rfl ?_
      refine wl_v (ov_move rfl) rfl rfl rfl ?_
      refine wl_v (ov_move rfl) rfl rfl rfl ?_
      refine wl_v (ov_indexg sI31 tI3 rfl rfl (some_holds (q := v_32.toNat * 1) (holds_row (List.Mem.head _)) (by rw [cells_length fI_len]; have hlt : v_32.toNat < (ys.set k (ys.getD v_32.toNat 0)).length := (by first | omega | (rw [List.length_set]; omega)); omega)) (by omega) (show v_32.toNat < v from (by first | omega | (rw [List.length_set]; omega)))) rfl rfl rfl ?_
      refine wl_r0 (or_store_row (vs := [.int .i64 ((ys.getD k 0))]) (cs' := cells fI ((ys.set k (ys.getD v_32.toNat 0)).set v_32.toNat (ys.getD k 0))) (.head) tI3 rfl rfl rfl rfl (by rw [cells_length fI_len]; have hlt := (show v_32.toNat < (ys.set k (ys.getD v_32.toNat 0)).length from (by first | omega | (rw [List.length_set]; omega))); simp only [List.length_cons, List.length_nil]; omega) (by simp) (cells_splice fI_len (show v_32.toNat < (ys.set k (ys.getD v_32.toNat 0)).length from (by first | omega | (rw [List.length_set]; omega))) (ys.getD k 0))) rfl rfl (kn0 ?_)
      refine wl_nil ?_
      refine ce_block ?_
      refine ce_then ?_
      refine cw_region ?_
      refine wl_v (ov_move rfl) rfl rfl rfl ?_
      refine wl_v (ov_add (r := ((k + 1 : Nat) : Int)) rfl rfl rfl (by omega)) rfl rfl rfl ?_
      refine wl_v (ov_assign rfl) rfl rfl rfl ?_
      refine wl_nil ?_
      exact fun ac_ w_ hs_ => hR1 (k + 1) ((ys.set k (ys.getD v_32.toNat 0)).set v_32.toNat (ys.getD k 0)) (q + 1) ⟨by omega, by rw [List.length_set, List.length_set]; exact hj2, by omega, by omega⟩ (by omega) ac_ w_ (hs_.weaken (.cons rfl (.cons rfl (.cons rfl (.cons rfl (.cons rfl (.nil)))))) (.cons (.head) (.cons (.tail .head) (.cons (.tail .head) (.cons (.head) (.refl))))))
    ·
      refine wl_nil ?_
      refine ce_then ?_
      refine cw_false rfl ?_
      refine cw_exit ?_
      refine ce_then_exit ?_
      refine ce_then_exit ?_
      refine ce_hit ?_
      refine ce_then ?_
      refine cw_seq ?_
      refine cw_region ?_
      refine wl_v (ov_fieldAddr fI25_0 some_lit rfl) rfl rfl rfl ?_
      refine wl_v (ov_load tI3 (holds_blk (List.Mem.tail _ (List.Mem.tail _ (List.Mem.head _)))) rfl rfl) rfl rfl rfl ?_
      refine wl_r (or_buildSlice (e := 43) (size := 2) (is := []) (vs := []) (cs := cells fE ([])) rfl rfl rfl (by decide) (fun _ => by kernel_rfl)) rfl rfl (kt1 rfl (fun g50 => ?_))
      refine wl_v (ov_build (is := [0, 1]) (vs := [.int .i64 (((m : Nat) : Int)), .slice (some ⟨g50, 0, none⟩) (0) (0)]) (v := .agg #[.int .i64 (((m : Nat) : Int)), .slice (some ⟨g50, 0, none⟩) (0) (0)]) rfl rfl (fun _ => by kernel_rfl)) rfl rfl rfl ?_
      refine wl_r (or_alloc tI25 rfl) rfl rfl (kt1 rfl (fun g10 => ?_))
      refine wl_r0 (or_store_blk (vs := [.int .i64 (((m : Nat) : Int)), .slice (some ⟨g50, 0, none⟩) (0) (0)]) (cs' := [.int .i64 (((m : Nat) : Int)), .slice (some ⟨g50, 0, none⟩) (0) (0)]) (.head) tI25 rfl rfl rfl rfl (Nat.le_of_ble_eq_true rfl) rfl) rfl rfl (kn0 ?_)
      refine wl_nil ?_
      refine ce_then ?_
      refine cw_seq ?_
      refine cw_seq ?_
      refine cw_region ?_
      refine wl_v (ov_assign rfl) rfl rfl rfl ?_
      refine wl_nil ?_
      refine ce_then ?_
      refine cw_block ?_
      refine cw_loop4 (fun (i : Nat) (A4 : Option Addr) (c4 : Nat) (fs : List Ed) => [(3, elp (some ⟨g3, 0, none⟩) (0)), (4, elp (some ⟨g4, 0, none⟩) (0)), (5, .slice A3 (v) (c3)), (10, elp (some ⟨g10, 0, none⟩) (0)), (11, .int .i64 (((i : Nat) : Int)))]) (fun (i : Nat) (A4 : Option Addr) (c4 : Nat) (fs : List Ed) => (blk g10 [.int .i64 (((m : Nat) : Int)), .slice A4 (fs.length) (c4)] 25) :: (row 43 2 A4 (fs.length) (c4) (cells fE fs)) :: (row 3 1 A3 (v) (c3) (cells fI ys)) :: (blk g4 [.int .i64 (0), .slice none (0) (0)] 25) :: (blk g3 [.int .i64 (((m : Nat) : Int)), .slice A1 (es.length) (c1)] 25) :: (blk g [.slice Ar (nr) (cr), .int .i64 (((q : Nat) : Int))] 99) :: F) (fun (i : Nat) (A4 : Option Addr) (c4 : Nat) (fs : List Ed) => i ≤ es.length ∧ fs.length ≤ c4 ∧ fs.length = i) (fun (i : Nat) (A4 : Option Addr) (c4 : Nat) (fs : List Ed) => es.length - i) 0 (some ⟨g50, 0, none⟩) 0 ([]) ⟨by omega, Nat.le_refl _, rfl⟩ (.cons rfl (.cons rfl (.cons rfl (.cons rfl (.cons (congrArg (fun z => some (Value.int .i64 z)) (show 0 = ((0 : Nat) : Int) by first | omega | rfl | (simp; done))) (.nil)))))) (.consE (show blk g10 [.int .i64 (((m : Nat) : Int)), .slice (some ⟨g50, 0, none⟩) (0) (0)] 25 = blk g10 [.int .i64 (((m : Nat) : Int)), .slice (some ⟨g50, 0, none⟩) (([]).length) (0)] 25 by rfl) (.head) (.consE (show row 43 2 (some ⟨g50, 0, none⟩) (0) (0) (cells fE ([])) = row 43 2 (some ⟨g50, 0, none⟩) (([]).length) (0) (cells fE ([])) by rfl) (.head) (.cons (.head) (.cons (.head) (.cons (.head) (.cons (.head) (.refl))))))) ?_
      intro R2 i A4 c4 fs hk2 hR2
      obtain ⟨hl1, hl2, hl3⟩ := hk2
      
      refine cw_seq ?_
      refine cw_seq ?_
      refine cw_region ?_
      refine wl_v (ov_move rfl) rfl rfl rfl ?_
      refine wl_v (ov_fieldAddr fI25_1 some_lit rfl) rfl rfl rfl ?_
      refine wl_v (ov_load tI23 (holds_blk (List.Mem.tail _ (List.Mem.tail _ (List.Mem.tail _ (List.Mem.tail _ (List.Mem.head _)))))) rfl rfl) rfl rfl rfl ?_
      refine wl_v (ov_len (sliceI_spec sI23) rfl) rfl rfl rfl ?_
      refine wl_if (ov_lss rfl rfl) rfl rfl rfl (fun c56 => ?_) (fun c56 => ?_)
      ·
        refine wl_nil ?_
        refine ce_then ?_
        refine cw_true rfl ?_
        refine cw_skip ?_
        refine ce_then ?_
        refine cw_seq ?_
        refine cw_block ?_
        refine cw_draw mixO [20] (.cons (.head) (.cons (.head) (.cons (.head) (.cons (.head) (.cons (.head) (.cons (.head) (.refl))))))) rfl ?_
        refine wg_take (i := 0) rfl (ov_loadAgg (vs := [.int .i64 (((m : Nat) : Int)), .slice A4 (fs.length) (c4)]) tI25 (holds_blk (List.Mem.head _)) rfl some_lit rfl rfl) rfl rfl rfl (by kernel_rfl) (by kernel_rfl) (by kernel_rfl) (by kernel_rfl) ?_
        refine wg_takep (i := 1) rfl (ov_move rfl) rfl rfl rfl (by kernel_rfl) (by kernel_rfl) (by kernel_rfl) rfl ?_
        refine wg_take (i := 2) rfl (ov_fieldAddr fI25_1 some_lit rfl) rfl rfl rfl (by kernel_rfl) (by kernel_rfl) (by kernel_rfl) (by kernel_rfl) ?_
        refine wg_take (i := 3) rfl (ov_load tI23 (holds_blk (List.Mem.tail _ (List.Mem.tail _ (List.Mem.tail _ (List.Mem.tail _ (List.Mem.head _)))))) rfl rfl) rfl rfl rfl (by kernel_rfl) (by kernel_rfl) (by kernel_rfl) (by kernel_rfl) ?_
        refine wg_takep (i := 4) rfl (ov_move rfl) rfl rfl rfl (by kernel_rfl) (by kernel_rfl) (by kernel_rfl) rfl ?_
        refine wg_take (i := 5) rfl (ov_index (k := i) (c := c1) sI23 tI43 rfl rfl (some_holds (q := i * 2) (Holds.keepF hA1 ((.drop (.drop (.drop (.drop (.drop (.drop .refl)))))))) (by rw [cells_length fE_len]; have hlt : i < es.length := (by omega); omega)) (show i < es.length from (by omega))) rfl rfl rfl (by kernel_rfl) (by kernel_rfl) (by kernel_rfl) (by kernel_rfl) ?_
        refine wg_take (i := 6) rfl (ov_fieldAddr fI43_0 (some_holds (q := i * 2) (Holds.keepF hA1 ((.drop (.drop (.drop (.drop (.drop (.drop .refl)))))))) (by rw [cells_length fE_len]; have hlt : i < es.length := (by omega); omega)) rfl) rfl rfl rfl (by kernel_rfl) (by kernel_rfl) (by kernel_rfl) (by kernel_rfl) ?_
        refine wg_take (i := 7) rfl (ov_load tI3 (Holds.keepF hA1 ((.drop (.drop (.drop (.drop (.drop (.drop .refl)))))))) rfl (get_fE0 (show i < es.length from (by omega)))) rfl rfl rfl (by kernel_rfl) (by kernel_rfl) (by kernel_rfl) (by kernel_rfl) ?_
        refine wg_take (i := 8) rfl (ov_indexg sI31 tI3 rfl rfl (some_holds (q := (((es.getD i (0, 0)).1).toNat) * 1) (holds_row (List.Mem.tail _ (List.Mem.tail _ (List.Mem.head _)))) (by rw [cells_length fI_len]; have hlt : ((es.getD i (0, 0)).1).toNat < ys.length := (by have h9 := hg.inr _ (getD_mem (xs := es) (k := i) (0, 0) (by omega)); omega); omega)) (by have h9 := hg.inr _ (getD_mem (xs := es) (k := i) (0, 0) (by omega)); omega) (show ((es.getD i (0, 0)).1).toNat < v from (by have h9 := hg.inr _ (getD_mem (xs := es) (k := i) (0, 0) (by omega)); omega))) rfl rfl rfl (by kernel_rfl) (by kernel_rfl) (by kernel_rfl) (by kernel_rfl) ?_
        refine wg_take (i := 9) rfl (ov_load tI3 (holds_row (List.Mem.tail _ (List.Mem.tail _ (List.Mem.head _)))) rfl (get_fI (show ((es.getD i (0, 0)).1).toNat < ys.length from (by have h9 := hg.inr _ (getD_mem (xs := es) (k := i) (0, 0) (by omega)); omega)))) rfl rfl rfl (by kernel_rfl) (by kernel_rfl) (by kernel_rfl) (by kernel_rfl) ?_
        refine wg_takep (i := 10) rfl (ov_move rfl) rfl rfl rfl (by kernel_rfl) (by kernel_rfl) (by kernel_rfl) rfl ?_
        refine wg_take (i := 11) rfl (ov_fieldAddr fI25_1 some_lit rfl) rfl rfl rfl (by kernel_rfl) (by kernel_rfl) (by kernel_rfl) (by kernel_rfl) ?_
        refine wg_take (i := 12) rfl (ov_load tI23 (holds_blk (List.Mem.tail _ (List.Mem.tail _ (List.Mem.tail _ (List.Mem.tail _ (List.Mem.head _)))))) rfl rfl) rfl rfl rfl (by kernel_rfl) (by kernel_rfl) (by kernel_rfl) (by kernel_rfl) ?_
        refine wg_takep (i := 13) rfl (ov_move rfl) rfl rfl rfl (by kernel_rfl) (by kernel_rfl) (by kernel_rfl) rfl ?_
        refine wg_take (i := 14) rfl (ov_index (k := i) (c := c1) sI23 tI43 rfl rfl (some_holds (q := i * 2) (Holds.keepF hA1 ((.drop (.drop (.drop (.drop (.drop (.drop .refl)))))))) (by rw [cells_length fE_len]; have hlt : i < es.length := (by omega); omega)) (show i < es.length from (by omega))) rfl rfl rfl (by kernel_rfl) (by kernel_rfl) (by kernel_rfl) (by kernel_rfl) ?_
        refine wg_take (i := 15) rfl (ov_fieldAddr fI43_1 (some_holds (q := i * 2) (Holds.keepF hA1 ((.drop (.drop (.drop (.drop (.drop (.drop .refl)))))))) (by rw [cells_length fE_len]; have hlt : i < es.length := (by omega); omega)) rfl) rfl rfl rfl (by kernel_rfl) (by kernel_rfl) (by kernel_rfl) (by kernel_rfl) ?_
        refine wg_take (i := 16) rfl (ov_load tI3 (Holds.keepF hA1 ((.drop (.drop (.drop (.drop (.drop (.drop .refl)))))))) rfl (get_fE1 (show i < es.length from (by omega)))) rfl rfl rfl (by kernel_rfl) (by kernel_rfl) (by kernel_rfl) (by kernel_rfl) ?_
        refine wg_take (i := 17) rfl (ov_indexg sI31 tI3 rfl rfl (some_holds (q := (((es.getD i (0, 0)).2).toNat) * 1) (holds_row (List.Mem.tail _ (List.Mem.tail _ (List.Mem.head _)))) (by rw [cells_length fI_len]; have hlt : ((es.getD i (0, 0)).2).toNat < ys.length := (by have h9 := hg.inr _ (getD_mem (xs := es) (k := i) (0, 0) (by omega)); omega); omega)) (by have h9 := hg.inr _ (getD_mem (xs := es) (k := i) (0, 0) (by omega)); omega) (show ((es.getD i (0, 0)).2).toNat < v from (by have h9 := hg.inr _ (getD_mem (xs := es) (k := i) (0, 0) (by omega)); omega))) rfl rfl rfl (by kernel_rfl) (by kernel_rfl) (by kernel_rfl) (by kernel_rfl) ?_
        refine wg_take (i := 18) rfl (ov_load tI3 (holds_row (List.Mem.tail _ (List.Mem.tail _ (List.Mem.head _)))) rfl (get_fI (show ((es.getD i (0, 0)).2).toNat < ys.length from (by have h9 := hg.inr _ (getD_mem (xs := es) (k := i) (0, 0) (by omega)); omega)))) rfl rfl rfl (by kernel_rfl) (by kernel_rfl) (by kernel_rfl) (by kernel_rfl) ?_
        refine wg_one (i := 19) (by kernel_rfl) ?_
        refine go_r rfl rfl rfl rfl (or_call (fv := []) (vs := [.agg #[.int .i64 (((m : Nat) : Int)), .slice A4 (fs.length) (c4)], .int .i64 ((ys.getD (((es.getD i (0, 0)).1).toNat) 0)), .int .i64 ((ys.getD (((es.getD i (0, 0)).2).toNat) 0))]) (cs := []) en128 rfl rfl (call_x3 (fun w hw => addEdgeG_c w ((m : Nat) : Int) A4 fs.length c4 fs (ys.getD (((es.getD i (0, 0)).1).toNat) 0) (ys.getD (((es.getD i (0, 0)).2).toNat) 0) ((holds_row (List.Mem.tail _ (List.Mem.head _))) w hw) rfl hl2 (by omega)))) (kt3p rfl (fun A2_78 c2_78 fs_78 h_78 => ?_))
        refine gk (.cons (.tail .head) (.cons (.tail .head) (.cons (.tail .head) (.cons (.tail .head) (.cons (.tail .head) (.cons (.tail .head) ((.drop .refl)))))))) ?_
        refine wg_one (i := 20) (by kernel_rfl) ?_
        refine go_late0 rfl rfl rfl rfl (or_store_blk (vs := [.int .i64 (((m : Nat) : Int)), .slice A2_78 (fs_78.length) (c2_78)]) (cs' := [.int .i64 (((m : Nat) : Int)), .slice A2_78 (fs_78.length) (c2_78)]) (.tail .head) tI25 rfl rfl rfl rfl (Nat.le_of_ble_eq_true rfl) rfl) (kn0 ?_)
        refine wa_done (by kernel_rfl) ?_
        refine ce_block ?_
        refine ce_then ?_
        refine cw_region ?_
        refine wl_v (ov_move rfl) rfl rfl rfl ?_
        refine wl_v (ov_add (r := ((i + 1 : Nat) : Int)) rfl rfl rfl (by omega)) rfl rfl rfl ?_
        refine wl_v (ov_assign rfl) rfl rfl rfl ?_
        refine wl_nil ?_
        exact fun ac_ w_ hs_ => hR2 (i + 1) A2_78 c2_78 fs_78 ⟨by omega, h_78.1, by omega⟩ (by omega) ac_ w_ (hs_.weaken (.cons rfl (.cons rfl (.cons rfl (.cons rfl (.cons rfl (.nil)))))) (.cons (.head) (.cons (.head) (.cons (.tail .head) (.cons (.tail .head) (.cons (.tail .head) (.cons (.tail .head) ((.drop .refl)))))))))
      ·
        refine wl_nil ?_
        refine ce_then ?_
        refine cw_false rfl ?_
        refine cw_exit ?_
        refine ce_then_exit ?_
        refine ce_then_exit ?_
        refine ce_hit ?_
        refine ce_then ?_
        refine cw_seq ?_
        refine cw_region ?_
        refine wl_v (ov_loadAgg (vs := [.int .i64 (((m : Nat) : Int)), .slice A4 (fs.length) (c4)]) tI25 (holds_blk (List.Mem.head _)) rfl some_lit rfl rfl) rfl rfl rfl ?_
        refine wl_r0 (or_store_blk (vs := [.int .i64 (((m : Nat) : Int)), .slice A4 (fs.length) (c4)]) (cs' := [.int .i64 (((m : Nat) : Int)), .slice A4 (fs.length) (c4)]) (.tail (.tail (.tail .head))) tI25 rfl rfl rfl rfl (Nat.le_of_ble_eq_true rfl) rfl) rfl rfl (kn0 ?_)
        refine wl_nil ?_
        refine ce_then ?_
        refine cw_ret ?_
        refine ce_results (v := .agg #[.int .i64 (((m : Nat) : Int)), .slice A4 (fs.length) (c4)]) (res1 rfl (rv_c rfl tI25 rfl (List.Mem.head _))) (fun w' hw => ?_)
        exact ⟨A4, c4, fs, q, ⟨⟨hl2, by omega⟩, by omega, by omega⟩, rfl, ((.cons (.tail (.tail .head)) (.cons (.tail (.tail (.tail (.tail .head)))) ((.drop (.drop (.drop (.drop .refl)))))) : Keep _ _).ss hw)⟩
set_option maxRecDepth 100000 in
theorem twoGraphs_c (w w0 : World) (Bd : Nat) (F : List Ent) (m : Nat) (A1 : Option Addr) (n1 : Nat) (c1 : Nat) (es : List (Int × Int)) (g : Nat) (Ar : Option Addr) (nr : Nat) (cr : Nat) (bs : List Nat) (p : Nat) (hA1 : Holds (SS w0 Bd F) A1 (cells fE es)) (eA1 : es.length = n1) (lA1 : n1 ≤ c1) (hAr : Holds (SS w0 Bd F) Ar (cells fY bs)) (eAr : bs.length = nr) (lAr : nr ≤ cr) (hy : nr ≤ 2000 ∧ (∀ x ∈ bs, x < 256) ∧ p ≤ 70000) (hg : Gr m es) (hm : m ≤ 5) (hss : SS w0 Bd ((blk g [.slice Ar (nr) (cr), .int .i64 (((p : Nat) : Int))] 99) :: F) w) : Calls Try.prog 80 #[elp (some ⟨g, 0, none⟩) (0), .agg #[.int .i64 (((m : Nat) : Int)), .slice A1 (n1) (c1)]] w (Ret fun rv w' => ∃ N2 A2 c2 fs q, ((fs.length ≤ c2 ∧ fs.length ≤ 100 ∧ -1 ≤ N2 ∧ N2 ≤ 8) ∧ p ≤ q ∧ q ≤ p + 400) ∧ rv = .tuple #[.agg #[.int .i64 (((m : Nat) : Int)), .slice A1 (n1) (c1)], .agg #[.int .i64 (N2), .slice A2 (fs.length) (c2)]] ∧ SS w0 Bd ((row 43 2 A2 (fs.length) (c2) (cells fE fs)) :: (blk g [.slice Ar (nr) (cr), .int .i64 (((q : Nat) : Int))] 99) :: F) w') := by
  subst eA1
  have hel : es.length ≤ 10 := Nat.le_trans hg.sublist.length_le (prs_small5 m hm)
  refine fn_enter (args := [elp (some ⟨g, 0, none⟩) (0), .agg #[.int .i64 (((m : Nat) : Int)), .slice A1 (es.length) (c1)]]) Try.func80 rfl Try.ntmps80 rfl hss ?_
  refine cw_seq ?_
  refine cw_region ?_
  refine wl_r (or_box rfl rfl) rfl rfl (kt1 rfl (fun g3 => ?_))
  refine wl_r (or_alloc tI25 rfl) rfl rfl (kt1 rfl (fun g4 => ?_))
  refine wl_r (or_alloc tI25 rfl) rfl rfl (kt1 rfl (fun g5 => ?_))
  refine wl_nil ?_
  refine ce_then ?_
  refine cw_seq ?_
  refine cw_draw mixO [8] (.cons (.head) (.cons (.head) (.cons (.head) (.cons (.head) (.refl))))) rfl ?_
  refine wg_take (i := 0) rfl (ov_fieldAddr fI25_0 some_lit rfl) rfl rfl rfl (by kernel_rfl) (by kernel_rfl) (by kernel_rfl) (by kernel_rfl) ?_
  refine wg_take (i := 1) rfl (ov_load tI3 (holds_blk (List.Mem.tail _ (List.Mem.tail _ (List.Mem.head _)))) rfl rfl) rfl rfl rfl (by kernel_rfl) (by kernel_rfl) (by kernel_rfl) (by kernel_rfl) ?_
  refine wg_take (i := 3) rfl (ov_fieldAddr fI25_1 some_lit rfl) rfl rfl rfl (by kernel_rfl) (by kernel_rfl) (by kernel_rfl) (by kernel_rfl) ?_
  refine wg_take (i := 4) rfl (ov_load tI23 (holds_blk (List.Mem.tail _ (List.Mem.tail _ (List.Mem.head _)))) rfl rfl) rfl rfl rfl (by kernel_rfl) (by kernel_rfl) (by kernel_rfl) (by kernel_rfl) ?_
  refine wg_two (i := 2) (j := 7) (by kernel_rfl) ?_ ?_
  ·
    refine go_r rfl rfl rfl rfl (or_buildSlice (e := 43) (size := 2) (is := []) (vs := []) (cs := cells fE ([])) rfl rfl rfl (by decide) (fun _ => by kernel_rfl)) (kt1 rfl (fun g11 => ?_))
    refine gk (.cons (.tail .head) (.cons (.tail .head) (.cons (.tail .head) (.cons (.tail .head) ((.drop .refl)))))) ?_
    refine wg_two (i := 5) (j := 7) (by kernel_rfl) ?_ ?_
    ·
      refine go_r rfl rfl rfl rfl (or_append (c2 := c1) sI23 tI43 rfl (by decide) rfl rfl (.head) (Holds.keepF hA1 ((.drop (.drop (.drop (.drop (.drop .refl))))))) (by rw [cells_length fE_len]; try simp) (one_cells fE_one _) cells_append (by omega) (by omega)) (kt2p rfl (fun A14 c14 h14 => ?_))
      refine gk (.cons (.tail .head) (.cons (.tail .head) (.cons (.tail .head) (.cons (.tail .head) ((.drop .refl)))))) ?_
      refine wg_takep (i := 6) rfl (ov_build (is := [0, 1]) (vs := [.int .i64 (((m : Nat) : Int)), .slice A14 (0 + es.length) (c14)]) (v := .agg #[.int .i64 (((m : Nat) : Int)), .slice A14 (0 + es.length) (c14)]) rfl rfl (fun _ => by kernel_rfl)) rfl rfl rfl (by kernel_rfl) (by kernel_rfl) (by kernel_rfl) rfl ?_
      refine wg_one (i := 7) (by kernel_rfl) ?_
      refine go_r rfl rfl rfl rfl (or_alloc tI25 rfl) (kt1 rfl (fun g6 => ?_))
      refine gk (.cons (.tail (.tail .head)) (.cons (.tail (.tail .head)) (.cons (.tail (.tail .head)) (.cons (.tail (.tail .head)) ((.drop (.drop .refl))))))) ?_
      refine wg_one (i := 8) (by kernel_rfl) ?_
      refine go_late0 rfl rfl rfl rfl (or_store_blk (vs := [.int .i64 (((m : Nat) : Int)), .slice A14 (0 + es.length) (c14)]) (cs' := [.int .i64 (((m : Nat) : Int)), .slice A14 (0 + es.length) (c14)]) (.head) tI25 rfl rfl rfl rfl (Nat.le_of_ble_eq_true rfl) rfl) (kn0 ?_)
      refine wa_done (by kernel_rfl) ?_
      refine ce_then ?_
      refine cw_seq ?_
      refine cw_seq ?_
      refine cw_region ?_
      refine wl_v (ov_loadAgg (vs := [.int .i64 (((m : Nat) : Int)), .slice A1 (es.length) (c1)]) tI25 (holds_blk (List.Mem.tail _ (List.Mem.tail _ (List.Mem.tail _ (List.Mem.tail _ (List.Mem.head _)))))) rfl some_lit rfl rfl) rfl rfl rfl ?_
      refine wl_r (or_call (fv := []) (vs := [.agg #[.int .i64 (((m : Nat) : Int)), .slice A1 (es.length) (c1)]]) (cs := []) en43 rfl rfl (call_v (fun w hw => validGraphS_c w ((m : Nat) : Int) A1 es.length c1 es ((Holds.keepF hA1 ((.drop (.drop (.drop (.drop (.drop (.drop .refl)))))))) w hw) rfl lA1 (by first | assumption | omega | (simp; omega))))) rfl rfl (kt_if rfl (fun c17 => ?_) (fun c17 => ?_))
      ·
        refine wl_v (ov_not rfl) rfl rfl rfl ?_
        refine wl_nil ?_
        refine ce_then ?_
        refine cw_false rfl ?_
        refine cw_skip ?_
        refine ce_then ?_
        refine cw_seq ?_
        refine cw_seq ?_
        refine cw_region ?_
        refine wl_v (ov_move rfl) rfl rfl rfl ?_
        refine wl_r (or_call (fv := []) (vs := [elp (some ⟨g, 0, none⟩) (0), .int .i64 (4)]) (cs := []) en50 rfl rfl (call_o (.cons (.tail (.tail (.tail (.tail (.tail .head))))) (.cons (.head) (.cons (.head) (.cons (.head) (.cons (.head) (.cons (.head) (.refl))))))) (fun w hw => pick_c w _ _ _ 4 g Ar nr cr bs p (Holds.keepF hAr ((.drop (.drop (.drop (.drop (.drop .refl))))))) (by first | rfl | assumption | (simp; done) | (simp; omega)) lAr ⟨hy.1, hy.2.1, by omega⟩ (by first | assumption | omega | (simp; omega)) hw))) rfl rfl (kt1p rfl (fun v_22 h_22 => ?_))
        refine wl_v (ov_assign rfl) rfl rfl rfl ?_
        refine wl_nil ?_
        refine ce_then ?_
        refine cw_block ?_
        refine cw_loop5 (fun (t : Int) (A4 : Option Addr) (c4 : Nat) (fs : List Ed) (q : Nat) => [(0, elp (some ⟨g, 0, none⟩) (0)), (3, elp (some ⟨g3, 0, none⟩) (0)), (4, elp (some ⟨g4, 0, none⟩) (0)), (5, elp (some ⟨g5, 0, none⟩) (0)), (6, elp (some ⟨g6, 0, none⟩) (0)), (7, .int .i64 (t))]) (fun (t : Int) (A4 : Option Addr) (c4 : Nat) (fs : List Ed) (q : Nat) => (blk g [.slice Ar (nr) (cr), .int .i64 (((q : Nat) : Int))] 99) :: (blk g6 [.int .i64 (((m : Nat) : Int)), .slice A4 (fs.length) (c4)] 25) :: (row 43 2 A4 (fs.length) (c4) (cells fE fs)) :: (blk g5 [.int .i64 (0), .slice none (0) (0)] 25) :: (blk g4 [.int .i64 (0), .slice none (0) (0)] 25) :: (blk g3 [.int .i64 (((m : Nat) : Int)), .slice A1 (es.length) (c1)] 25) :: F) (fun (t : Int) (A4 : Option Addr) (c4 : Nat) (fs : List Ed) (q : Nat) => (0 ≤ t ∧ t ≤ 3) ∧ fs.length ≤ c4 ∧ (fs.length : Int) ≤ 30 - 2 * t ∧ p ≤ q ∧ (q : Int) ≤ p + 4 - t) (fun (t : Int) (A4 : Option Addr) (c4 : Nat) (fs : List Ed) (q : Nat) => t.toNat) v_22 A14 c14 es (p + 1) ⟨by simp at h_22; omega, by omega, by simp at h_22; omega, by omega, by simp at h_22; omega⟩ (.cons rfl (.cons rfl (.cons rfl (.cons rfl (.cons rfl (.cons rfl (.nil))))))) (.cons (.head) (.consE (show blk g6 [.int .i64 (((m : Nat) : Int)), .slice A14 (0 + es.length) (c14)] 25 = blk g6 [.int .i64 (((m : Nat) : Int)), .slice A14 (es.length) (c14)] 25 by rw [Nat.zero_add]) (.head) (.consE (show row 43 2 A14 (0 + es.length) (c14) (cells fE (([]) ++ es)) = row 43 2 A14 (es.length) (c14) (cells fE es) by rw [Nat.zero_add, List.nil_append]) (.head) (.cons (.head) (.cons (.head) (.cons (.head) (.refl))))))) ?_
        intro R0 t A4 c4 fs q hk hR0
        obtain ⟨ht, hk2, hk3, hk4, hk5⟩ := hk
        refine cw_seq ?_
        refine cw_seq ?_
        refine cw_region ?_
        refine wl_v (ov_move rfl) rfl rfl rfl ?_
        refine wl_if (ov_gtr rfl rfl) rfl rfl rfl (fun c24 => ?_) (fun c24 => ?_)
        ·
          refine wl_nil ?_
          refine ce_then ?_
          refine cw_true rfl ?_
          refine cw_skip ?_
          refine ce_then ?_
          refine cw_seq ?_
          refine cw_block ?_
          refine cw_seq ?_
          refine cw_region ?_
          refine wl_v (ov_loadAgg (vs := [.int .i64 (((m : Nat) : Int)), .slice A4 (fs.length) (c4)]) tI25 (holds_blk (List.Mem.tail _ (List.Mem.head _))) rfl some_lit rfl rfl) rfl rfl rfl ?_
          refine wl_r (or_call (fv := []) (vs := [.agg #[.int .i64 (((m : Nat) : Int)), .slice A4 (fs.length) (c4)]]) (cs := []) en126 rfl rfl (call_x3 (fun w hw => switches_c w ((m : Nat) : Int) A4 fs.length c4 fs ((holds_row (List.Mem.tail _ (List.Mem.tail _ (List.Mem.head _)))) w hw) rfl hk2 (by omega)))) rfl rfl (kt3p rfl (fun A2_28 c2_28 qs_28 h_28 => ?_))
          refine wl_v (ov_assign rfl) rfl rfl rfl ?_
          refine wl_nil ?_
          refine ce_then ?_
          refine cw_seq ?_
          refine cw_region ?_
          refine wl_v (ov_move rfl) rfl rfl rfl ?_
          refine wl_v (ov_len (sliceI_spec sI112) rfl) rfl rfl rfl ?_
          refine wl_if (ov_gtr rfl rfl) rfl rfl rfl (fun c31 => ?_) (fun c31 => ?_)
          ·
            refine wl_nil ?_
            refine ce_then ?_
            refine cw_true rfl ?_
            refine cw_draw mixO [9] (.cons (.head) (.cons (.tail .head) (.cons (.tail .head) (.cons (.tail .head) (.cons (.tail .head) (.cons (.tail .head) ((.drop .refl)))))))) rfl ?_
            refine wg_take (i := 0) rfl (ov_loadAgg (vs := [.int .i64 (((m : Nat) : Int)), .slice A4 (fs.length) (c4)]) tI25 (holds_blk (List.Mem.tail _ (List.Mem.head _))) rfl some_lit rfl rfl) rfl rfl rfl (by kernel_rfl) (by kernel_rfl) (by kernel_rfl) (by kernel_rfl) ?_
            refine wg_takep (i := 1) rfl (ov_move rfl) rfl rfl rfl (by kernel_rfl) (by kernel_rfl) (by kernel_rfl) rfl ?_
            refine wg_takep (i := 2) rfl (ov_move rfl) rfl rfl rfl (by kernel_rfl) (by kernel_rfl) (by kernel_rfl) rfl ?_
            refine wg_takep (i := 3) rfl (ov_move rfl) rfl rfl rfl (by kernel_rfl) (by kernel_rfl) (by kernel_rfl) rfl ?_
            refine wg_takep (i := 4) rfl (ov_len (sliceI_spec sI112) rfl) rfl rfl rfl (by kernel_rfl) (by kernel_rfl) (by kernel_rfl) rfl ?_
            refine wg_one (i := 5) (by kernel_rfl) ?_
            refine go_r rfl rfl rfl rfl (or_call (fv := []) (vs := [elp (some ⟨g, 0, none⟩) (0), .int .i64 (((qs_28.length : Nat) : Int))]) (cs := []) en50 rfl rfl (call_o (.cons (.tail .head) (.cons (.head) (.cons (.head) (.cons (.head) (.cons (.head) (.cons (.head) (.cons (.head) (.refl)))))))) (fun w hw => pick_c w _ _ _ ((qs_28.length : Nat) : Int) g Ar nr cr bs q (Holds.keepF hAr ((.drop (.drop (.drop (.drop (.drop (.drop .refl)))))))) (by first | rfl | assumption | (simp; done) | (simp; omega)) lAr ⟨hy.1, hy.2.1, by omega⟩ (by omega) hw))) (kt1p rfl (fun v_37 h_37 => ?_))
            refine gk (.cons (.tail .head) (.cons (.tail .head) (.cons (.tail .head) (.cons (.tail .head) (.cons (.tail .head) (.cons (.tail .head) ((.drop .refl)))))))) ?_
            have h37 : 0 ≤ v_37 ∧ v_37 < (qs_28.length : Int) := (by first | omega | (simp at h_37; omega))
            refine wg_take (i := 6) rfl (ov_indexg sI112 tI116 rfl rfl (some_holds (q := v_37.toNat * 4) (holds_row (List.Mem.head _)) (by rw [cells_length fQ_len]; have hlt : v_37.toNat < qs_28.length := (by omega); omega)) (by omega) (show v_37.toNat < qs_28.length from (by omega))) rfl rfl rfl (by kernel_rfl) (by kernel_rfl) (by kernel_rfl) (by kernel_rfl) ?_
            refine wg_take (i := 7) rfl (ov_loadAgg (vs := [.int .i64 ((qs_28.getD v_37.toNat (0, 0, 0, 0)).1), .int .i64 ((qs_28.getD v_37.toNat (0, 0, 0, 0)).2.1), .int .i64 ((qs_28.getD v_37.toNat (0, 0, 0, 0)).2.2.1), .int .i64 ((qs_28.getD v_37.toNat (0, 0, 0, 0)).2.2.2)]) tI116 (holds_row (List.Mem.head _)) rfl (some_holds (q := v_37.toNat * 4) (holds_row (List.Mem.head _)) (by rw [cells_length fQ_len]; have hlt : v_37.toNat < qs_28.length := (by omega); omega)) (cells_elem fQ_len (0, 0, 0, 0) (show v_37.toNat < qs_28.length from (by omega))) rfl) rfl rfl rfl (by kernel_rfl) (by kernel_rfl) (by kernel_rfl) (by kernel_rfl) ?_
            refine wg_one (i := 8) (by kernel_rfl) ?_
            refine go_r rfl rfl rfl rfl (or_call (fv := []) (vs := [.agg #[.int .i64 (((m : Nat) : Int)), .slice A4 (fs.length) (c4)], .agg #[.int .i64 ((qs_28.getD v_37.toNat (0, 0, 0, 0)).1), .int .i64 ((qs_28.getD v_37.toNat (0, 0, 0, 0)).2.1), .int .i64 ((qs_28.getD v_37.toNat (0, 0, 0, 0)).2.2.1), .int .i64 ((qs_28.getD v_37.toNat (0, 0, 0, 0)).2.2.2)]]) (cs := []) en127 rfl rfl (call_x3 (fun w hw => switched_c w ((m : Nat) : Int) A4 fs.length c4 fs ((qs_28.getD v_37.toNat (0, 0, 0, 0)).1) ((qs_28.getD v_37.toNat (0, 0, 0, 0)).2.1) ((qs_28.getD v_37.toNat (0, 0, 0, 0)).2.2.1) ((qs_28.getD v_37.toNat (0, 0, 0, 0)).2.2.2) ((holds_row (List.Mem.tail _ (List.Mem.tail _ (List.Mem.tail _ (List.Mem.head _))))) w hw) rfl hk2 (by omega)))) (kt3p rfl (fun A2_40 c2_40 fs_40 h_40 => ?_))
            refine gk (.cons (.tail (.tail .head)) (.cons (.tail (.tail .head)) (.cons (.tail (.tail .head)) (.cons (.tail (.tail .head)) (.cons (.tail (.tail .head)) (.cons (.tail (.tail .head)) ((.drop (.drop .refl))))))))) ?_
            refine wg_one (i := 9) (by kernel_rfl) ?_
            refine go_late0 rfl rfl rfl rfl (or_store_blk (vs := [.int .i64 (((m : Nat) : Int)), .slice A2_40 (fs_40.length) (c2_40)]) (cs' := [.int .i64 (((m : Nat) : Int)), .slice A2_40 (fs_40.length) (c2_40)]) (.tail (.tail (.tail .head))) tI25 rfl rfl rfl rfl (Nat.le_of_ble_eq_true rfl) rfl) (kn0 ?_)
            refine wa_done (by kernel_rfl) ?_
            refine ce_block ?_
            refine ce_then ?_
            refine cw_region ?_
            refine wl_v (ov_move rfl) rfl rfl rfl ?_
            refine wl_v (ov_sub (r := t - 1) rfl rfl rfl (by omega)) rfl rfl rfl ?_
            refine wl_v (ov_assign rfl) rfl rfl rfl ?_
            refine wl_nil ?_
            exact fun ac_ w_ hs_ => hR0 (t - 1) A2_40 c2_40 fs_40 (q + 1) ⟨by omega, h_40.1, by omega, by omega, by omega⟩ (by omega) ac_ w_ (hs_.weaken (.cons rfl (.cons rfl (.cons rfl (.cons rfl (.cons rfl (.cons rfl (.nil))))))) (.cons (.tail (.tail .head)) (.cons (.head) (.cons (.head) (.cons (.tail (.tail .head)) (.cons (.tail (.tail .head)) (.cons (.tail (.tail .head)) ((.drop (.drop .refl))))))))))
          ·
            refine wl_nil ?_
            refine ce_then ?_
            refine cw_false rfl ?_
            refine cw_skip ?_
            refine ce_block ?_
            refine ce_then ?_
            refine cw_region ?_
            refine wl_v (ov_move rfl) rfl rfl rfl ?_
            refine wl_v (ov_sub (r := t - 1) rfl rfl rfl (by omega)) rfl rfl rfl ?_
            refine wl_v (ov_assign rfl) rfl rfl rfl ?_
            refine wl_nil ?_
            exact fun ac_ w_ hs_ => hR0 (t - 1) A4 c4 fs q ⟨by omega, hk2, by omega, by omega, by omega⟩ (by omega) ac_ w_ (hs_.weaken (.cons rfl (.cons rfl (.cons rfl (.cons rfl (.cons rfl (.cons rfl (.nil))))))) (.cons (.tail .head) (.cons (.tail .head) (.cons (.tail .head) (.cons (.tail .head) (.cons (.tail .head) (.cons (.tail .head) ((.drop .refl)))))))))
        ·
          refine wl_nil ?_
          refine ce_then ?_
          refine cw_false rfl ?_
          refine cw_exit ?_
          refine ce_then_exit ?_
          refine ce_then_exit ?_
          refine ce_hit ?_
          refine ce_then ?_
          refine cw_seq ?_
          refine cw_seq ?_
          refine cw_region ?_
          refine wl_v (ov_move rfl) rfl rfl rfl ?_
          refine wl_r (or_call (fv := []) (vs := [elp (some ⟨g, 0, none⟩) (0), .int .i64 (8)]) (cs := []) en50 rfl rfl (call_o (.cons (.head) (.cons (.head) (.cons (.head) (.cons (.head) (.cons (.head) (.cons (.head) (.refl))))))) (fun w hw => pick_c w _ _ _ 8 g Ar nr cr bs q (Holds.keepF hAr ((.drop (.drop (.drop (.drop (.drop .refl))))))) (by first | rfl | assumption | (simp; done) | (simp; omega)) lAr ⟨hy.1, hy.2.1, by omega⟩ (by first | assumption | omega | (simp; omega)) hw))) rfl rfl (kt1p rfl (fun v_42 h_42 => ?_))
          refine wl_nil ?_
          refine ce_then ?_
          refine cw_block ?_
          refine cw_seq ?_
          refine cw_region ?_
          refine wl_if (ov_eql rfl rfl) rfl rfl rfl (fun c44 => ?_) (fun c44 => ?_)
          ·
            refine wl_v (ov_assign rfl) rfl rfl rfl ?_
            refine wl_nil ?_
            refine ce_then ?_
            refine cw_true rfl ?_
            refine cw_seq ?_
            refine cw_draw mixO [] (.cons (.tail .head) (.cons (.tail .head) (.cons (.tail (.tail (.tail .head))) ((.drop (.drop (.drop .refl))))))) rfl ?_
            refine wg_take (i := 0) rfl (ov_loadAgg (vs := [.int .i64 (((m : Nat) : Int)), .slice A1 (es.length) (c1)]) tI25 (holds_blk (List.Mem.tail _ (List.Mem.tail _ (List.Mem.head _)))) rfl some_lit rfl rfl) rfl rfl rfl (by kernel_rfl) (by kernel_rfl) (by kernel_rfl) (by kernel_rfl) ?_
            refine wg_takep (i := 1) rfl (ov_move rfl) rfl rfl rfl (by kernel_rfl) (by kernel_rfl) (by kernel_rfl) rfl ?_
            refine wg_take (i := 2) rfl (ov_fieldAddr fI25_0 some_lit rfl) rfl rfl rfl (by kernel_rfl) (by kernel_rfl) (by kernel_rfl) (by kernel_rfl) ?_
            refine wg_take (i := 3) rfl (ov_load tI3 (holds_blk (List.Mem.tail _ (List.Mem.tail _ (List.Mem.head _)))) rfl rfl) rfl rfl rfl (by kernel_rfl) (by kernel_rfl) (by kernel_rfl) (by kernel_rfl) ?_
            refine wg_one (i := 4) (by kernel_rfl) ?_
            refine go_r rfl rfl rfl rfl (or_call (fv := []) (vs := [elp (some ⟨g, 0, none⟩) (0), .int .i64 (((m : Nat) : Int))]) (cs := []) en125 rfl rfl (call_o (.cons (.head) (.cons (.head) (.cons (.head) (.cons (.head) (.cons (.head) (.cons (.head) (.refl))))))) (fun w hw => aGraph_c w _ _ _ m g Ar nr cr bs (q + 1) (Holds.keepF hAr ((.drop (.drop (.drop (.drop (.drop .refl))))))) (by first | rfl | assumption | (simp; done) | (simp; omega)) lAr ⟨hy.1, hy.2.1, by omega⟩ (by omega) hw))) (kt4p rfl (fun A2_49 c2_49 es_49 q_49 h_49 => ?_))
            refine gk (.cons (.tail (.tail .head)) (.cons (.tail (.tail .head)) (.cons (.tail (.tail (.tail (.tail .head)))) ((.drop (.drop (.drop (.drop .refl)))))))) ?_
            refine wg_one (i := 5) (by kernel_rfl) ?_
            refine go_r0 rfl rfl rfl rfl (or_store_blk (vs := [.int .i64 (((m : Nat) : Int)), .slice A1 (es.length) (c1)]) (cs' := [.int .i64 (((m : Nat) : Int)), .slice A1 (es.length) (c1)]) (.tail (.tail (.tail (.tail (.tail .head))))) tI25 rfl rfl rfl rfl (Nat.le_of_ble_eq_true rfl) rfl) (kn0 ?_)
            refine gk (.cons (.tail (.tail (.tail .head))) (.cons (.tail (.tail (.tail .head))) (.cons (.tail (.tail (.tail (.tail .head)))) ((.drop (.drop (.drop (.drop .refl)))))))) ?_
            refine wg_one (i := 6) (by kernel_rfl) ?_
            refine go_r0 rfl rfl rfl rfl (or_store_blk (vs := [.int .i64 (((m : Nat) : Int)), .slice A2_49 (es_49.length) (c2_49)]) (cs' := [.int .i64 (((m : Nat) : Int)), .slice A2_49 (es_49.length) (c2_49)]) (.tail (.tail (.tail (.tail (.tail .head))))) tI25 rfl rfl rfl rfl (Nat.le_of_ble_eq_true rfl) rfl) (kn0 ?_)
            refine gk (.cons (.tail (.tail (.tail (.tail .head)))) (.cons (.tail (.tail (.tail (.tail .head)))) (.cons (.tail (.tail (.tail (.tail .head)))) ((.drop (.drop (.drop (.drop .refl)))))))) ?_
            refine wg_done (by kernel_rfl) ?_
            refine ce_then ?_
            refine cw_ret ?_
            refine ce_block_ret ?_
            refine ce_then_ret ?_
            refine ce_results (v := .tuple #[.agg #[.int .i64 (((m : Nat) : Int)), .slice A1 (es.length) (c1)], .agg #[.int .i64 (((m : Nat) : Int)), .slice A2_49 (es_49.length) (c2_49)]]) (res2 rfl (rv_c rfl tI25 rfl (List.Mem.tail _ (List.Mem.head _))) (rv_c rfl tI25 rfl (List.Mem.head _))) (fun w' hw => ?_)
            exact ⟨((m : Nat) : Int), A2_49, c2_49, es_49, q_49, ⟨⟨h_49.1.1, by have h9 := h_49.1.2.length_le; have h8 := prs_small m (by omega); omega, by omega, by omega⟩, by omega, by omega⟩, rfl, ((.cons (.tail (.tail .head)) (.cons (.tail (.tail .head)) ((.drop (.drop (.drop (.drop (.drop .refl))))))) : Keep _ _).ss hw)⟩
          ·
            refine wl_v (ov_assign rfl) rfl rfl rfl ?_
            refine wl_nil ?_
            refine ce_then ?_
            refine cw_false rfl ?_
            refine cw_seq ?_
            refine cw_region ?_
            refine wl_if (ov_eql rfl rfl) rfl rfl rfl (fun c51 => ?_) (fun c51 => ?_)
            ·
              refine wl_v (ov_assign rfl) rfl rfl rfl ?_
              refine wl_nil ?_
              refine ce_then ?_
              refine cw_true rfl ?_
              refine cw_seq ?_
              refine cw_draw mixO [] (.cons (.tail .head) (.cons (.tail .head) (.cons (.tail (.tail (.tail .head))) ((.drop (.drop (.drop .refl))))))) rfl ?_
              refine wg_take (i := 0) rfl (ov_loadAgg (vs := [.int .i64 (((m : Nat) : Int)), .slice A1 (es.length) (c1)]) tI25 (holds_blk (List.Mem.tail _ (List.Mem.tail _ (List.Mem.head _)))) rfl some_lit rfl rfl) rfl rfl rfl (by kernel_rfl) (by kernel_rfl) (by kernel_rfl) (by kernel_rfl) ?_
              refine wg_takep (i := 1) rfl (ov_move rfl) rfl rfl rfl (by kernel_rfl) (by kernel_rfl) (by kernel_rfl) rfl ?_
              refine wg_one (i := 2) (by kernel_rfl) ?_
              refine go_r rfl rfl rfl rfl (or_call (fv := []) (vs := [elp (some ⟨g, 0, none⟩) (0)]) (cs := []) en49 rfl rfl (call_o (.cons (.head) (.cons (.head) (.cons (.head) (.cons (.head) (.cons (.head) (.cons (.head) (.refl))))))) (fun w hw => someGraph_c w _ _ _ g Ar nr cr bs (q + 1) (Holds.keepF hAr ((.drop (.drop (.drop (.drop (.drop .refl))))))) (by first | rfl | assumption | (simp; done) | (simp; omega)) lAr ⟨hy.1, hy.2.1, by omega⟩ hw))) (kt5p rfl (fun N_54 A2_54 c2_54 es_54 q_54 h_54 => ?_))
              refine gk (.cons (.tail (.tail .head)) (.cons (.tail (.tail .head)) (.cons (.tail (.tail (.tail (.tail .head)))) ((.drop (.drop (.drop (.drop .refl)))))))) ?_
              refine wg_one (i := 3) (by kernel_rfl) ?_
              refine go_r0 rfl rfl rfl rfl (or_store_blk (vs := [.int .i64 (((m : Nat) : Int)), .slice A1 (es.length) (c1)]) (cs' := [.int .i64 (((m : Nat) : Int)), .slice A1 (es.length) (c1)]) (.tail (.tail (.tail (.tail (.tail .head))))) tI25 rfl rfl rfl rfl (Nat.le_of_ble_eq_true rfl) rfl) (kn0 ?_)
              refine gk (.cons (.tail (.tail (.tail .head))) (.cons (.tail (.tail (.tail .head))) (.cons (.tail (.tail (.tail (.tail .head)))) ((.drop (.drop (.drop (.drop .refl)))))))) ?_
              refine wg_one (i := 4) (by kernel_rfl) ?_
              refine go_r0 rfl rfl rfl rfl (or_store_blk (vs := [.int .i64 (N_54), .slice A2_54 (es_54.length) (c2_54)]) (cs' := [.int .i64 (N_54), .slice A2_54 (es_54.length) (c2_54)]) (.tail (.tail (.tail (.tail (.tail .head))))) tI25 rfl rfl rfl rfl (Nat.le_of_ble_eq_true rfl) rfl) (kn0 ?_)
              refine gk (.cons (.tail (.tail (.tail (.tail .head)))) (.cons (.tail (.tail (.tail (.tail .head)))) (.cons (.tail (.tail (.tail (.tail .head)))) ((.drop (.drop (.drop (.drop .refl)))))))) ?_
              refine wg_done (by kernel_rfl) ?_
              refine ce_then ?_
              refine cw_ret ?_
              refine ce_block_ret ?_
              refine ce_then_ret ?_
              refine ce_results (v := .tuple #[.agg #[.int .i64 (((m : Nat) : Int)), .slice A1 (es.length) (c1)], .agg #[.int .i64 (N_54), .slice A2_54 (es_54.length) (c2_54)]]) (res2 rfl (rv_c rfl tI25 rfl (List.Mem.tail _ (List.Mem.head _))) (rv_c rfl tI25 rfl (List.Mem.head _))) (fun w' hw => ?_)
              exact ⟨N_54, A2_54, c2_54, es_54, q_54, ⟨⟨h_54.1.1, h_54.1.2.1, h_54.1.2.2.1, h_54.1.2.2.2⟩, by omega, by omega⟩, rfl, ((.cons (.tail (.tail .head)) (.cons (.tail (.tail .head)) ((.drop (.drop (.drop (.drop (.drop .refl))))))) : Keep _ _).ss hw)⟩
            ·
              refine wl_v (ov_assign rfl) rfl rfl rfl ?_
              refine wl_nil ?_
              refine ce_then ?_
              refine cw_false rfl ?_
              refine cw_skip ?_
              refine ce_block ?_
              refine ce_then ?_
              refine cw_seq ?_
              refine cw_draw mixO [] (.cons (.head) (.cons (.head) (.cons (.head) (.cons (.tail (.tail .head)) ((.drop (.drop .refl))))))) rfl ?_
              refine wg_take (i := 0) rfl (ov_loadAgg (vs := [.int .i64 (((m : Nat) : Int)), .slice A1 (es.length) (c1)]) tI25 (holds_blk (List.Mem.tail _ (List.Mem.tail _ (List.Mem.tail _ (List.Mem.head _))))) rfl some_lit rfl rfl) rfl rfl rfl (by kernel_rfl) (by kernel_rfl) (by kernel_rfl) (by kernel_rfl) ?_
              refine wg_take (i := 1) rfl (ov_loadAgg (vs := [.int .i64 (((m : Nat) : Int)), .slice A4 (fs.length) (c4)]) tI25 (holds_blk (List.Mem.tail _ (List.Mem.head _))) rfl some_lit rfl rfl) rfl rfl rfl (by kernel_rfl) (by kernel_rfl) (by kernel_rfl) (by kernel_rfl) ?_
              refine wg_one (i := 2) (by kernel_rfl) ?_
              refine go_r0 rfl rfl rfl rfl (or_store_blk (vs := [.int .i64 (((m : Nat) : Int)), .slice A1 (es.length) (c1)]) (cs' := [.int .i64 (((m : Nat) : Int)), .slice A1 (es.length) (c1)]) (.tail (.tail (.tail (.tail .head)))) tI25 rfl rfl rfl rfl (Nat.le_of_ble_eq_true rfl) rfl) (kn0 ?_)
              refine gk (.cons (.tail .head) (.cons (.tail .head) (.cons (.tail .head) (.cons (.tail (.tail .head)) ((.drop (.drop .refl))))))) ?_
              refine wg_one (i := 3) (by kernel_rfl) ?_
              refine go_r0 rfl rfl rfl rfl (or_store_blk (vs := [.int .i64 (((m : Nat) : Int)), .slice A4 (fs.length) (c4)]) (cs' := [.int .i64 (((m : Nat) : Int)), .slice A4 (fs.length) (c4)]) (.tail (.tail (.tail (.tail .head)))) tI25 rfl rfl rfl rfl (Nat.le_of_ble_eq_true rfl) rfl) (kn0 ?_)
              refine gk (.cons (.tail (.tail .head)) (.cons (.tail (.tail .head)) (.cons (.tail (.tail .head)) (.cons (.tail (.tail .head)) ((.drop (.drop .refl))))))) ?_
              refine wg_done (by kernel_rfl) ?_
              refine ce_then ?_
              refine cw_ret ?_
              refine ce_results (v := .tuple #[.agg #[.int .i64 (((m : Nat) : Int)), .slice A1 (es.length) (c1)], .agg #[.int .i64 (((m : Nat) : Int)), .slice A4 (fs.length) (c4)]]) (res2 rfl (rv_c rfl tI25 rfl (List.Mem.tail _ (List.Mem.head _))) (rv_c rfl tI25 rfl (List.Mem.head _))) (fun w' hw => ?_)
              exact ⟨((m : Nat) : Int), A4, c4, fs, q + 1, ⟨⟨hk2, by omega, by omega, by omega⟩, by omega, by omega⟩, rfl, ((.cons (.tail (.tail (.tail (.tail .head)))) (.cons (.tail (.tail .head)) ((.drop (.drop (.drop (.drop .refl)))))) : Keep _ _).ss hw)⟩
      ·
        exact absurd (hg.valid (by omega)) c17
    ·
      refine go_r rfl rfl rfl rfl (or_alloc tI25 rfl) (kt1 rfl (fun g6 => ?_))
      refine gk (.cons (.tail (.tail .head)) (.cons (.tail (.tail .head)) (.cons (.tail (.tail .head)) (.cons (.tail (.tail .head)) ((.drop (.drop .refl))))))) ?_
      refine wg_one (i := 5) (by kernel_rfl) ?_
      refine go_r rfl rfl rfl rfl (or_append (c2 := c1) sI23 tI43 rfl (by decide) rfl rfl (.tail .head) (Holds.keepF hA1 ((.drop (.drop (.drop (.drop (.drop (.drop .refl)))))))) (by rw [cells_length fE_len]; try simp) (one_cells fE_one _) cells_append (by omega) (by omega)) (kt2p rfl (fun A14 c14 h14 => ?_))
      refine gk (.cons (.tail (.tail .head)) (.cons (.tail (.tail .head)) (.cons (.tail (.tail .head)) (.cons (.tail (.tail .head)) ((.drop (.drop .refl))))))) ?_
      refine wg_takep (i := 6) rfl (ov_build (is := [0, 1]) (vs := [.int .i64 (((m : Nat) : Int)), .slice A14 (0 + es.length) (c14)]) (v := .agg #[.int .i64 (((m : Nat) : Int)), .slice A14 (0 + es.length) (c14)]) rfl rfl (fun _ => by kernel_rfl)) rfl rfl rfl (by kernel_rfl) (by kernel_rfl) (by kernel_rfl) rfl ?_
      refine wg_one (i := 8) (by kernel_rfl) ?_
      refine go_late0 rfl rfl rfl rfl (or_store_blk (vs := [.int .i64 (((m : Nat) : Int)), .slice A14 (0 + es.length) (c14)]) (cs' := [.int .i64 (((m : Nat) : Int)), .slice A14 (0 + es.length) (c14)]) (.tail .head) tI25 rfl rfl rfl rfl (Nat.le_of_ble_eq_true rfl) rfl) (kn0 ?_)
      refine wa_done (by kernel_rfl) ?_
      refine ce_then ?_
      refine cw_seq ?_
      refine cw_seq ?_
      refine cw_region ?_
      refine wl_v (ov_loadAgg (vs := [.int .i64 (((m : Nat) : Int)), .slice A1 (es.length) (c1)]) tI25 (holds_blk (List.Mem.tail _ (List.Mem.tail _ (List.Mem.tail _ (List.Mem.tail _ (List.Mem.head _)))))) rfl some_lit rfl rfl) rfl rfl rfl ?_
      refine wl_r (or_call (fv := []) (vs := [.agg #[.int .i64 (((m : Nat) : Int)), .slice A1 (es.length) (c1)]]) (cs := []) en43 rfl rfl (call_v (fun w hw => validGraphS_c w ((m : Nat) : Int) A1 es.length c1 es ((Holds.keepF hA1 ((.drop (.drop (.drop (.drop (.drop (.drop .refl)))))))) w hw) rfl lA1 (by first | assumption | omega | (simp; omega))))) rfl rfl (kt_if rfl (fun c17 => ?_) (fun c17 => ?_))
      ·
        refine wl_v (ov_not rfl) rfl rfl rfl ?_
        refine wl_nil ?_
        refine ce_then ?_
        refine cw_false rfl ?_
        refine cw_skip ?_
        refine ce_then ?_
        refine cw_seq ?_
        refine cw_seq ?_
        refine cw_region ?_
        refine wl_v (ov_move rfl) rfl rfl rfl ?_
        refine wl_r (or_call (fv := []) (vs := [elp (some ⟨g, 0, none⟩) (0), .int .i64 (4)]) (cs := []) en50 rfl rfl (call_o (.cons (.tail (.tail (.tail (.tail (.tail .head))))) (.cons (.head) (.cons (.head) (.cons (.head) (.cons (.head) (.cons (.head) (.refl))))))) (fun w hw => pick_c w _ _ _ 4 g Ar nr cr bs p (Holds.keepF hAr ((.drop (.drop (.drop (.drop (.drop .refl))))))) (by first | rfl | assumption | (simp; done) | (simp; omega)) lAr ⟨hy.1, hy.2.1, by omega⟩ (by first | assumption | omega | (simp; omega)) hw))) rfl rfl (kt1p rfl (fun v_22 h_22 => ?_))
        refine wl_v (ov_assign rfl) rfl rfl rfl ?_
        refine wl_nil ?_
        refine ce_then ?_
        refine cw_block ?_
        refine cw_loop5 (fun (t : Int) (A4 : Option Addr) (c4 : Nat) (fs : List Ed) (q : Nat) => [(0, elp (some ⟨g, 0, none⟩) (0)), (3, elp (some ⟨g3, 0, none⟩) (0)), (4, elp (some ⟨g4, 0, none⟩) (0)), (5, elp (some ⟨g5, 0, none⟩) (0)), (6, elp (some ⟨g6, 0, none⟩) (0)), (7, .int .i64 (t))]) (fun (t : Int) (A4 : Option Addr) (c4 : Nat) (fs : List Ed) (q : Nat) => (blk g [.slice Ar (nr) (cr), .int .i64 (((q : Nat) : Int))] 99) :: (blk g6 [.int .i64 (((m : Nat) : Int)), .slice A4 (fs.length) (c4)] 25) :: (row 43 2 A4 (fs.length) (c4) (cells fE fs)) :: (blk g5 [.int .i64 (0), .slice none (0) (0)] 25) :: (blk g4 [.int .i64 (0), .slice none (0) (0)] 25) :: (blk g3 [.int .i64 (((m : Nat) : Int)), .slice A1 (es.length) (c1)] 25) :: F) (fun (t : Int) (A4 : Option Addr) (c4 : Nat) (fs : List Ed) (q : Nat) => (0 ≤ t ∧ t ≤ 3) ∧ fs.length ≤ c4 ∧ (fs.length : Int) ≤ 30 - 2 * t ∧ p ≤ q ∧ (q : Int) ≤ p + 4 - t) (fun (t : Int) (A4 : Option Addr) (c4 : Nat) (fs : List Ed) (q : Nat) => t.toNat) v_22 A14 c14 es (p + 1) ⟨by simp at h_22; omega, by omega, by simp at h_22; omega, by omega, by simp at h_22; omega⟩ (.cons rfl (.cons rfl (.cons rfl (.cons rfl (.cons rfl (.cons rfl (.nil))))))) (.cons (.head) (.consE (show blk g6 [.int .i64 (((m : Nat) : Int)), .slice A14 (0 + es.length) (c14)] 25 = blk g6 [.int .i64 (((m : Nat) : Int)), .slice A14 (es.length) (c14)] 25 by rw [Nat.zero_add]) (.head) (.consE (show row 43 2 A14 (0 + es.length) (c14) (cells fE (([]) ++ es)) = row 43 2 A14 (es.length) (c14) (cells fE es) by rw [Nat.zero_add, List.nil_append]) (.head) (.cons (.head) (.cons (.head) (.cons (.head) (.refl))))))) ?_
        intro R0 t A4 c4 fs q hk hR0
        obtain ⟨ht, hk2, hk3, hk4, hk5⟩ := hk
        refine cw_seq ?_
        refine cw_seq ?_
        refine cw_region ?_
        refine wl_v (ov_move rfl) rfl rfl rfl ?_
        refine wl_if (ov_gtr rfl rfl) rfl rfl rfl (fun c24 => ?_) (fun c24 => ?_)
        ·
          refine wl_nil ?_
          refine ce_then ?_
          refine cw_true rfl ?_
          refine cw_skip ?_
          refine ce_then ?_
          refine cw_seq ?_
          refine cw_block ?_
          refine cw_seq ?_
          refine cw_region ?_
          refine wl_v (ov_loadAgg (vs := [.int .i64 (((m : Nat) : Int)), .slice A4 (fs.length) (c4)]) tI25 (holds_blk (List.Mem.tail _ (List.Mem.head _))) rfl some_lit rfl rfl) rfl rfl rfl ?_
          refine wl_r (or_call (fv := []) (vs := [.agg #[.int .i64 (((m : Nat) : Int)), .slice A4 (fs.length) (c4)]]) (cs := []) en126 rfl rfl (call_x3 (fun w hw => switches_c w ((m : Nat) : Int) A4 fs.length c4 fs ((holds_row (List.Mem.tail _ (List.Mem.tail _ (List.Mem.head _)))) w hw) rfl hk2 (by omega)))) rfl rfl (kt3p rfl (fun A2_28 c2_28 qs_28 h_28 => ?_))
          refine wl_v (ov_assign rfl) rfl rfl rfl ?_
          refine wl_nil ?_
          refine ce_then ?_
          refine cw_seq ?_
          refine cw_region ?_
          refine wl_v (ov_move rfl) rfl rfl rfl ?_
          refine wl_v (ov_len (sliceI_spec sI112) rfl) rfl rfl rfl ?_
          refine wl_if (ov_gtr rfl rfl) rfl rfl rfl (fun c31 => ?_) (fun c31 => ?_)
          ·
            refine wl_nil ?_
            refine ce_then ?_
            refine cw_true rfl ?_
            refine cw_draw mixO [9] (.cons (.head) (.cons (.tail .head) (.cons (.tail .head) (.cons (.tail .head) (.cons (.tail .head) (.cons (.tail .head) ((.drop .refl)))))))) rfl ?_
            refine wg_take (i := 0) rfl (ov_loadAgg (vs := [.int .i64 (((m : Nat) : Int)), .slice A4 (fs.length) (c4)]) tI25 (holds_blk (List.Mem.tail _ (List.Mem.head _))) rfl some_lit rfl rfl) rfl rfl rfl (by kernel_rfl) (by kernel_rfl) (by kernel_rfl) (by kernel_rfl) ?_
            refine wg_takep (i := 1) rfl (ov_move rfl) rfl rfl rfl (by kernel_rfl) (by kernel_rfl) (by kernel_rfl) rfl ?_
            refine wg_takep (i := 2) rfl (ov_move rfl) rfl rfl rfl (by kernel_rfl) (by kernel_rfl) (by kernel_rfl) rfl ?_
            refine wg_takep (i := 3) rfl (ov_move rfl) rfl rfl rfl (by kernel_rfl) (by kernel_rfl) (by kernel_rfl) rfl ?_
            refine wg_takep (i := 4) rfl (ov_len (sliceI_spec sI112) rfl) rfl rfl rfl (by kernel_rfl) (by kernel_rfl) (by kernel_rfl) rfl ?_
            refine wg_one (i := 5) (by kernel_rfl) ?_
            refine go_r rfl rfl rfl rfl (or_call (fv := []) (vs := [elp (some ⟨g, 0, none⟩) (0), .int .i64 (((qs_28.length : Nat) : Int))]) (cs := []) en50 rfl rfl (call_o (.cons (.tail .head) (.cons (.head) (.cons (.head) (.cons (.head) (.cons (.head) (.cons (.head) (.cons (.head) (.refl)))))))) (fun w hw => pick_c w _ _ _ ((qs_28.length : Nat) : Int) g Ar nr cr bs q (Holds.keepF hAr ((.drop (.drop (.drop (.drop (.drop (.drop .refl)))))))) (by first | rfl | assumption | (simp; done) | (simp; omega)) lAr ⟨hy.1, hy.2.1, by omega⟩ (by omega) hw))) (kt1p rfl (fun v_37 h_37 => ?_))
            refine gk (.cons (.tail .head) (.cons (.tail .head) (.cons (.tail .head) (.cons (.tail .head) (.cons (.tail .head) (.cons (.tail .head) ((.drop .refl)))))))) ?_
            have h37 : 0 ≤ v_37 ∧ v_37 < (qs_28.length : Int) := (by first | omega | (simp at h_37; omega))
            refine wg_take (i := 6) rfl (ov_indexg sI112 tI116 rfl rfl (some_holds (q := v_37.toNat * 4) (holds_row (List.Mem.head _)) (by rw [cells_length fQ_len]; have hlt : v_37.toNat < qs_28.length := (by omega); omega)) (by omega) (show v_37.toNat < qs_28.length from (by omega))) rfl rfl rfl (by kernel_rfl) (by kernel_rfl) (by kernel_rfl) (by kernel_rfl) ?_
            refine wg_take (i := 7) rfl (ov_loadAgg (vs := [.int .i64 ((qs_28.getD v_37.toNat (0, 0, 0, 0)).1), .int .i64 ((qs_28.getD v_37.toNat (0, 0, 0, 0)).2.1), .int .i64 ((qs_28.getD v_37.toNat (0, 0, 0, 0)).2.2.1), .int .i64 ((qs_28.getD v_37.toNat (0, 0, 0, 0)).2.2.2)]) tI116 (holds_row (List.Mem.head _)) rfl (some_holds (q := v_37.toNat * 4) (holds_row (List.Mem.head _)) (by rw [cells_length fQ_len]; have hlt : v_37.toNat < qs_28.length := (by omega); omega)) (cells_elem fQ_len (0, 0, 0, 0) (show v_37.toNat < qs_28.length from (by omega))) rfl) rfl rfl rfl (by kernel_rfl) (by kernel_rfl) (by kernel_rfl) (by kernel_rfl) ?_
            refine wg_one (i := 8) (by kernel_rfl) ?_
            refine go_r rfl rfl rfl rfl (or_call (fv := []) (vs := [.agg #[.int .i64 (((m : Nat) : Int)), .slice A4 (fs.length) (c4)], .agg #[.int .i64 ((qs_28.getD v_37.toNat (0, 0, 0, 0)).1), .int .i64 ((qs_28.getD v_37.toNat (0, 0, 0, 0)).2.1), .int .i64 ((qs_28.getD v_37.toNat (0, 0, 0, 0)).2.2.1), .int .i64 ((qs_28.getD v_37.toNat (0, 0, 0, 0)).2.2.2)]]) (cs := []) en127 rfl rfl (call_x3 (fun w hw => switched_c w ((m : Nat) : Int) A4 fs.length c4 fs ((qs_28.getD v_37.toNat (0, 0, 0, 0)).1) ((qs_28.getD v_37.toNat (0, 0, 0, 0)).2.1) ((qs_28.getD v_37.toNat (0, 0, 0, 0)).2.2.1) ((qs_28.getD v_37.toNat (0, 0, 0, 0)).2.2.2) ((holds_row (List.Mem.tail _ (List.Mem.tail _ (List.Mem.tail _ (List.Mem.head _))))) w hw) rfl hk2 (by omega)))) (kt3p rfl (fun A2_40 c2_40 fs_40 h_40 => ?_))
            refine gk (.cons (.tail (.tail .head)) (.cons (.tail (.tail .head)) (.cons (.tail (.tail .head)) (.cons (.tail (.tail .head)) (.cons (.tail (.tail .head)) (.cons (.tail (.tail .head)) ((.drop (.drop .refl))))))))) ?_
            refine wg_one (i := 9) (by kernel_rfl) ?_
            refine go_late0 rfl rfl rfl rfl (or_store_blk (vs := [.int .i64 (((m : Nat) : Int)), .slice A2_40 (fs_40.length) (c2_40)]) (cs' := [.int .i64 (((m : Nat) : Int)), .slice A2_40 (fs_40.length) (c2_40)]) (.tail (.tail (.tail .head))) tI25 rfl rfl rfl rfl (Nat.le_of_ble_eq_true rfl) rfl) (kn0 ?_)
            refine wa_done (by kernel_rfl) ?_
            refine ce_block ?_
            refine ce_then ?_
            refine cw_region ?_
            refine wl_v (ov_move rfl) rfl rfl rfl ?_
            refine wl_v (ov_sub (r := t - 1) rfl rfl rfl (by omega)) rfl rfl rfl ?_
            refine wl_v (ov_assign rfl) rfl rfl rfl ?_
            refine wl_nil ?_
            exact fun ac_ w_ hs_ => hR0 (t - 1) A2_40 c2_40 fs_40 (q + 1) ⟨by omega, h_40.1, by omega, by omega, by omega⟩ (by omega) ac_ w_ (hs_.weaken (.cons rfl (.cons rfl (.cons rfl (.cons rfl (.cons rfl (.cons rfl (.nil))))))) (.cons (.tail (.tail .head)) (.cons (.head) (.cons (.head) (.cons (.tail (.tail .head)) (.cons (.tail (.tail .head)) (.cons (.tail (.tail .head)) ((.drop (.drop .refl))))))))))
          ·
            refine wl_nil ?_
            refine ce_then ?_
            refine cw_false rfl ?_
            refine cw_skip ?_
            refine ce_block ?_
            refine ce_then ?_
            refine cw_region ?_
            refine wl_v (ov_move rfl) rfl rfl rfl ?_
            refine wl_v (ov_sub (r := t - 1) rfl rfl rfl (by omega)) rfl rfl rfl ?_
            refine wl_v (ov_assign rfl) rfl rfl rfl ?_
            refine wl_nil ?_
            exact fun ac_ w_ hs_ => hR0 (t - 1) A4 c4 fs q ⟨by omega, hk2, by omega, by omega, by omega⟩ (by omega) ac_ w_ (hs_.weaken (.cons rfl (.cons rfl (.cons rfl (.cons rfl (.cons rfl (.cons rfl (.nil))))))) (.cons (.tail .head) (.cons (.tail .head) (.cons (.tail .head) (.cons (.tail .head) (.cons (.tail .head) (.cons (.tail .head) ((.drop .refl)))))))))
        ·
          refine wl_nil ?_
          refine ce_then ?_
          refine cw_false rfl ?_
          refine cw_exit ?_
          refine ce_then_exit ?_
          refine ce_then_exit ?_
          refine ce_hit ?_
          refine ce_then ?_
          refine cw_seq ?_
          refine cw_seq ?_
          refine cw_region ?_
          refine wl_v (ov_move rfl) rfl rfl rfl ?_
          refine wl_r (or_call (fv := []) (vs := [elp (some ⟨g, 0, none⟩) (0), .int .i64 (8)]) (cs := []) en50 rfl rfl (call_o (.cons (.head) (.cons (.head) (.cons (.head) (.cons (.head) (.cons (.head) (.cons (.head) (.refl))))))) (fun w hw => pick_c w _ _ _ 8 g Ar nr cr bs q (Holds.keepF hAr ((.drop (.drop (.drop (.drop (.drop .refl))))))) (by first | rfl | assumption | (simp; done) | (simp; omega)) lAr ⟨hy.1, hy.2.1, by omega⟩ (by first | assumption | omega | (simp; omega)) hw))) rfl rfl (kt1p rfl (fun v_42 h_42 => ?_))
          refine wl_nil ?_
          refine ce_then ?_
          refine cw_block ?_
          refine cw_seq ?_
          refine cw_region ?_
          refine wl_if (ov_eql rfl rfl) rfl rfl rfl (fun c44 => ?_) (fun c44 => ?_)
          ·
            refine wl_v (ov_assign rfl) rfl rfl rfl ?_
            refine wl_nil ?_
            refine ce_then ?_
            refine cw_true rfl ?_
            refine cw_seq ?_
            refine cw_draw mixO [] (.cons (.tail .head) (.cons (.tail .head) (.cons (.tail (.tail (.tail .head))) ((.drop (.drop (.drop .refl))))))) rfl ?_
            refine wg_take (i := 0) rfl (ov_loadAgg (vs := [.int .i64 (((m : Nat) : Int)), .slice A1 (es.length) (c1)]) tI25 (holds_blk (List.Mem.tail _ (List.Mem.tail _ (List.Mem.head _)))) rfl some_lit rfl rfl) rfl rfl rfl (by kernel_rfl) (by kernel_rfl) (by kernel_rfl) (by kernel_rfl) ?_
            refine wg_takep (i := 1) rfl (ov_move rfl) rfl rfl rfl (by kernel_rfl) (by kernel_rfl) (by kernel_rfl) rfl ?_
            refine wg_take (i := 2) rfl (ov_fieldAddr fI25_0 some_lit rfl) rfl rfl rfl (by kernel_rfl) (by kernel_rfl) (by kernel_rfl) (by kernel_rfl) ?_
            refine wg_take (i := 3) rfl (ov_load tI3 (holds_blk (List.Mem.tail _ (List.Mem.tail _ (List.Mem.head _)))) rfl rfl) rfl rfl rfl (by kernel_rfl) (by kernel_rfl) (by kernel_rfl) (by kernel_rfl) ?_
            refine wg_one (i := 4) (by kernel_rfl) ?_
            refine go_r rfl rfl rfl rfl (or_call (fv := []) (vs := [elp (some ⟨g, 0, none⟩) (0), .int .i64 (((m : Nat) : Int))]) (cs := []) en125 rfl rfl (call_o (.cons (.head) (.cons (.head) (.cons (.head) (.cons (.head) (.cons (.head) (.cons (.head) (.refl))))))) (fun w hw => aGraph_c w _ _ _ m g Ar nr cr bs (q + 1) (Holds.keepF hAr ((.drop (.drop (.drop (.drop (.drop .refl))))))) (by first | rfl | assumption | (simp; done) | (simp; omega)) lAr ⟨hy.1, hy.2.1, by omega⟩ (by omega) hw))) (kt4p rfl (fun A2_49 c2_49 es_49 q_49 h_49 => ?_))
            refine gk (.cons (.tail (.tail .head)) (.cons (.tail (.tail .head)) (.cons (.tail (.tail (.tail (.tail .head)))) ((.drop (.drop (.drop (.drop .refl)))))))) ?_
            refine wg_one (i := 5) (by kernel_rfl) ?_
            refine go_r0 rfl rfl rfl rfl (or_store_blk (vs := [.int .i64 (((m : Nat) : Int)), .slice A1 (es.length) (c1)]) (cs' := [.int .i64 (((m : Nat) : Int)), .slice A1 (es.length) (c1)]) (.tail (.tail (.tail (.tail (.tail .head))))) tI25 rfl rfl rfl rfl (Nat.le_of_ble_eq_true rfl) rfl) (kn0 ?_)
            refine gk (.cons (.tail (.tail (.tail .head))) (.cons (.tail (.tail (.tail .head))) (.cons (.tail (.tail (.tail (.tail .head)))) ((.drop (.drop (.drop (.drop .refl)))))))) ?_
            refine wg_one (i := 6) (by kernel_rfl) ?_
            refine go_r0 rfl rfl rfl rfl (or_store_blk (vs := [.int .i64 (((m : Nat) : Int)), .slice A2_49 (es_49.length) (c2_49)]) (cs' := [.int .i64 (((m : Nat) : Int)), .slice A2_49 (es_49.length) (c2_49)]) (.tail (.tail (.tail (.tail (.tail .head))))) tI25 rfl rfl rfl rfl (Nat.le_of_ble_eq_true rfl) rfl) (kn0 ?_)
            refine gk (.cons (.tail (.tail (.tail (.tail .head)))) (.cons (.tail (.tail (.tail (.tail .head)))) (.cons (.tail (.tail (.tail (.tail .head)))) ((.drop (.drop (.drop (.drop .refl)))))))) ?_
            refine wg_done (by kernel_rfl) ?_
            refine ce_then ?_
            refine cw_ret ?_
            refine ce_block_ret ?_
            refine ce_then_ret ?_
            refine ce_results (v := .tuple #[.agg #[.int .i64 (((m : Nat) : Int)), .slice A1 (es.length) (c1)], .agg #[.int .i64 (((m : Nat) : Int)), .slice A2_49 (es_49.length) (c2_49)]]) (res2 rfl (rv_c rfl tI25 rfl (List.Mem.tail _ (List.Mem.head _))) (rv_c rfl tI25 rfl (List.Mem.head _))) (fun w' hw => ?_)
            exact ⟨((m : Nat) : Int), A2_49, c2_49, es_49, q_49, ⟨⟨h_49.1.1, by have h9 := h_49.1.2.length_le; have h8 := prs_small m (by omega); omega, by omega, by omega⟩, by omega, by omega⟩, rfl, ((.cons (.tail (.tail .head)) (.cons (.tail (.tail .head)) ((.drop (.drop (.drop (.drop (.drop .refl))))))) : Keep _ _).ss hw)⟩
          ·
            refine wl_v (ov_assign rfl) rfl rfl rfl ?_
            refine wl_nil ?_
            refine ce_then ?_
            refine cw_false rfl ?_
            refine cw_seq ?_
            refine cw_region ?_
            refine wl_if (ov_eql rfl rfl) rfl rfl rfl (fun c51 => ?_) (fun c51 => ?_)
            ·
              refine wl_v (ov_assign rfl) rfl rfl rfl ?_
              refine wl_nil ?_
              refine ce_then ?_
              refine cw_true rfl ?_
              refine cw_seq ?_
              refine cw_draw mixO [] (.cons (.tail .head) (.cons (.tail .head) (.cons (.tail (.tail (.tail .head))) ((.drop (.drop (.drop .refl))))))) rfl ?_
              refine wg_take (i := 0) rfl (ov_loadAgg (vs := [.int .i64 (((m : Nat) : Int)), .slice A1 (es.length) (c1)]) tI25 (holds_blk (List.Mem.tail _ (List.Mem.tail _ (List.Mem.head _)))) rfl some_lit rfl rfl) rfl rfl rfl (by kernel_rfl) (by kernel_rfl) (by kernel_rfl) (by kernel_rfl) ?_
              refine wg_takep (i := 1) rfl (ov_move rfl) rfl rfl rfl (by kernel_rfl) (by kernel_rfl) (by kernel_rfl) rfl ?_
              refine wg_one (i := 2) (by kernel_rfl) ?_
              refine go_r rfl rfl rfl rfl (or_call (fv := []) (vs := [elp (some ⟨g, 0, none⟩) (0)]) (cs := []) en49 rfl rfl (call_o (.cons (.head) (.cons (.head) (.cons (.head) (.cons (.head) (.cons (.head) (.cons (.head) (.refl))))))) (fun w hw => someGraph_c w _ _ _ g Ar nr cr bs (q + 1) (Holds.keepF hAr ((.drop (.drop (.drop (.drop (.drop .refl))))))) (by first | rfl | assumption | (simp; done) | (simp; omega)) lAr ⟨hy.1, hy.2.1, by omega⟩ hw))) (kt5p rfl (fun N_54 A2_54 c2_54 es_54 q_54 h_54 => ?_))
              refine gk (.cons (.tail (.tail .head)) (.cons (.tail (.tail .head)) (.cons (.tail (.tail (.tail (.tail .head)))) ((.drop (.drop (.drop (.drop .refl)))))))) ?_
              refine wg_one (i := 3) (by kernel_rfl) ?_
              refine go_r0 rfl rfl rfl rfl (or_store_blk (vs := [.int .i64 (((m : Nat) : Int)), .slice A1 (es.length) (c1)]) (cs' := [.int .i64 (((m : Nat) : Int)), .slice A1 (es.length) (c1)]) (.tail (.tail (.tail (.tail (.tail .head))))) tI25 rfl rfl rfl rfl (Nat.le_of_ble_eq_true rfl) rfl) (kn0 ?_)
              refine gk (.cons (.tail (.tail (.tail .head))) (.cons (.tail (.tail (.tail .head))) (.cons (.tail (.tail (.tail (.tail .head)))) ((.drop (.drop (.drop (.drop .refl)))))))) ?_
              refine wg_one (i := 4) (by kernel_rfl) ?_
              refine go_r0 rfl rfl rfl rfl (or_store_blk (vs := [.int .i64 (N_54), .slice A2_54 (es_54.length) (c2_54)]) (cs' := [.int .i64 (N_54), .slice A2_54 (es_54.length) (c2_54)]) (.tail (.tail (.tail (.tail (.tail .head))))) tI25 rfl rfl rfl rfl (Nat.le_of_ble_eq_true rfl) rfl) (kn0 ?_)
              refine gk (.cons (.tail (.tail (.tail (.tail .head)))) (.cons (.tail (.tail (.tail (.tail .head)))) (.cons (.tail (.tail (.tail (.tail .head)))) ((.drop (.drop (.drop (.drop .refl)))))))) ?_
              refine wg_done (by kernel_rfl) ?_
              refine ce_then ?_
              refine cw_ret ?_
              refine ce_block_ret ?_
              refine ce_then_ret ?_
              refine ce_results (v := .tuple #[.agg #[.int .i64 (((m : Nat) : Int)), .slice A1 (es.length) (c1)], .agg #[.int .i64 (N_54), .slice A2_54 (es_54.length) (c2_54)]]) (res2 rfl (rv_c rfl tI25 rfl (List.Mem.tail _ (List.Mem.head _))) (rv_c rfl tI25 rfl (List.Mem.head _))) (fun w' hw => ?_)
              exact ⟨N_54, A2_54, c2_54, es_54, q_54, ⟨⟨h_54.1.1, h_54.1.2.1, h_54.1.2.2.1, h_54.1.2.2.2⟩, by omega, by omega⟩, rfl, ((.cons (.tail (.tail .head)) (.cons (.tail (.tail .head)) ((.drop (.drop (.drop (.drop (.drop .refl))))))) : Keep _ _).ss hw)⟩
            ·
              refine wl_v (ov_assign rfl) rfl rfl rfl ?_
              refine wl_nil ?_
              refine ce_then ?_
              refine cw_false rfl ?_
              refine cw_skip ?_
              refine ce_block ?_
              refine ce_then ?_
              refine cw_seq ?_
              refine cw_draw mixO [] (.cons (.head) (.cons (.head) (.cons (.head) (.cons (.tail (.tail .head)) ((.drop (.drop .refl))))))) rfl ?_
              refine wg_take (i := 0) rfl (ov_loadAgg (vs := [.int .i64 (((m : Nat) : Int)), .slice A1 (es.length) (c1)]) tI25 (holds_blk (List.Mem.tail _ (List.Mem.tail _ (List.Mem.tail _ (List.Mem.head _))))) rfl some_lit rfl rfl) rfl rfl rfl (by kernel_rfl) (by kernel_rfl) (by kernel_rfl) (by kernel_rfl) ?_
              refine wg_take (i := 1) rfl (ov_loadAgg (vs := [.int .i64 (((m : Nat) : Int)), .slice A4 (fs.length) (c4)]) tI25 (holds_blk (List.Mem.tail _ (List.Mem.head _))) rfl some_lit rfl rfl) rfl rfl rfl (by kernel_rfl) (by kernel_rfl) (by kernel_rfl) (by kernel_rfl) ?_
              refine wg_one (i := 2) (by kernel_rfl) ?_
              refine go_r0 rfl rfl rfl rfl (or_store_blk (vs := [.int .i64 (((m : Nat) : Int)), .slice A1 (es.length) (c1)]) (cs' := [.int .i64 (((m : Nat) : Int)), .slice A1 (es.length) (c1)]) (.tail (.tail (.tail (.tail .head)))) tI25 rfl rfl rfl rfl (Nat.le_of_ble_eq_true rfl) rfl) (kn0 ?_)
              refine gk (.cons (.tail .head) (.cons (.tail .head) (.cons (.tail .head) (.cons (.tail (.tail .head)) ((.drop (.drop .refl))))))) ?_
              refine wg_one (i := 3) (by kernel_rfl) ?_
              refine go_r0 rfl rfl rfl rfl (or_store_blk (vs := [.int .i64 (((m : Nat) : Int)), .slice A4 (fs.length) (c4)]) (cs' := [.int .i64 (((m : Nat) : Int)), .slice A4 (fs.length) (c4)]) (.tail (.tail (.tail (.tail .head)))) tI25 rfl rfl rfl rfl (Nat.le_of_ble_eq_true rfl) rfl) (kn0 ?_)
              refine gk (.cons (.tail (.tail .head)) (.cons (.tail (.tail .head)) (.cons (.tail (.tail .head)) (.cons (.tail (.tail .head)) ((.drop (.drop .refl))))))) ?_
              refine wg_done (by kernel_rfl) ?_
              refine ce_then ?_
              refine cw_ret ?_
              refine ce_results (v := .tuple #[.agg #[.int .i64 (((m : Nat) : Int)), .slice A1 (es.length) (c1)], .agg #[.int .i64 (((m : Nat) : Int)), .slice A4 (fs.length) (c4)]]) (res2 rfl (rv_c rfl tI25 rfl (List.Mem.tail _ (List.Mem.head _))) (rv_c rfl tI25 rfl (List.Mem.head _))) (fun w' hw => ?_)
              exact ⟨((m : Nat) : Int), A4, c4, fs, q + 1, ⟨⟨hk2, by omega, by omega, by omega⟩, by omega, by omega⟩, rfl, ((.cons (.tail (.tail (.tail (.tail .head)))) (.cons (.tail (.tail .head)) ((.drop (.drop (.drop (.drop .refl)))))) : Keep _ _).ss hw)⟩
      ·
        exact absurd (hg.valid (by omega)) c17
  ·
    refine go_r rfl rfl rfl rfl (or_alloc tI25 rfl) (kt1 rfl (fun g6 => ?_))
    refine gk (.cons (.tail .head) (.cons (.tail .head) (.cons (.tail .head) (.cons (.tail .head) ((.drop .refl)))))) ?_
    refine wg_one (i := 2) (by kernel_rfl) ?_
    refine go_r rfl rfl rfl rfl (or_buildSlice (e := 43) (size := 2) (is := []) (vs := []) (cs := cells fE ([])) rfl rfl rfl (by decide) (fun _ => by kernel_rfl)) (kt1 rfl (fun g11 => ?_))
    refine gk (.cons (.tail (.tail .head)) (.cons (.tail (.tail .head)) (.cons (.tail (.tail .head)) (.cons (.tail (.tail .head)) ((.drop (.drop .refl))))))) ?_
    refine wg_one (i := 5) (by kernel_rfl) ?_
    refine go_r rfl rfl rfl rfl (or_append (c2 := c1) sI23 tI43 rfl (by decide) rfl rfl (.head) (Holds.keepF hA1 ((.drop (.drop (.drop (.drop (.drop (.drop .refl)))))))) (by rw [cells_length fE_len]; try simp) (one_cells fE_one _) cells_append (by omega) (by omega)) (kt2p rfl (fun A14 c14 h14 => ?_))
    refine gk (.cons (.tail (.tail .head)) (.cons (.tail (.tail .head)) (.cons (.tail (.tail .head)) (.cons (.tail (.tail .head)) ((.drop (.drop .refl))))))) ?_
    refine wg_takep (i := 6) rfl (ov_build (is := [0, 1]) (vs := [.int .i64 (((m : Nat) : Int)), .slice A14 (0 + es.length) (c14)]) (v := .agg #[.int .i64 (((m : Nat) : Int)), .slice A14 (0 + es.length) (c14)]) rfl rfl (fun _ => by kernel_rfl)) rfl rfl rfl (by kernel_rfl) (by kernel_rfl) (by kernel_rfl) rfl ?_
    refine wg_one (i := 8) (by kernel_rfl) ?_
    refine go_late0 rfl rfl rfl rfl (or_store_blk (vs := [.int .i64 (((m : Nat) : Int)), .slice A14 (0 + es.length) (c14)]) (cs' := [.int .i64 (((m : Nat) : Int)), .slice A14 (0 + es.length) (c14)]) (.tail .head) tI25 rfl rfl rfl rfl (Nat.le_of_ble_eq_true rfl) rfl) (kn0 ?_)
    refine wa_done (by kernel_rfl) ?_
    refine ce_then ?_
    refine cw_seq ?_
    refine cw_seq ?_
    refine cw_region ?_
    refine wl_v (ov_loadAgg (vs := [.int .i64 (((m : Nat) : Int)), .slice A1 (es.length) (c1)]) tI25 (holds_blk (List.Mem.tail _ (List.Mem.tail _ (List.Mem.tail _ (List.Mem.tail _ (List.Mem.head _)))))) rfl some_lit rfl rfl) rfl rfl rfl ?_
    refine wl_r (or_call (fv := []) (vs := [.agg #[.int .i64 (((m : Nat) : Int)), .slice A1 (es.length) (c1)]]) (cs := []) en43 rfl rfl (call_v (fun w hw => validGraphS_c w ((m : Nat) : Int) A1 es.length c1 es ((Holds.keepF hA1 ((.drop (.drop (.drop (.drop (.drop (.drop .refl)))))))) w hw) rfl lA1 (by first | assumption | omega | (simp; omega))))) rfl rfl (kt_if rfl (fun c17 => ?_) (fun c17 => ?_))
    ·
      refine wl_v (ov_not rfl) rfl rfl rfl ?_
      refine wl_nil ?_
      refine ce_then ?_
      refine cw_false rfl ?_
      refine cw_skip ?_
      refine ce_then ?_
      refine cw_seq ?_
      refine cw_seq ?_
      refine cw_region ?_
      refine wl_v (ov_move rfl) rfl rfl rfl ?_
      refine wl_r (or_call (fv := []) (vs := [elp (some ⟨g, 0, none⟩) (0), .int .i64 (4)]) (cs := []) en50 rfl rfl (call_o (.cons (.tail (.tail (.tail (.tail (.tail .head))))) (.cons (.head) (.cons (.head) (.cons (.head) (.cons (.head) (.cons (.head) (.refl))))))) (fun w hw => pick_c w _ _ _ 4 g Ar nr cr bs p (Holds.keepF hAr ((.drop (.drop (.drop (.drop (.drop .refl))))))) (by first | rfl | assumption | (simp; done) | (simp; omega)) lAr ⟨hy.1, hy.2.1, by omega⟩ (by first | assumption | omega | (simp; omega)) hw))) rfl rfl (kt1p rfl (fun v_22 h_22 => ?_))
      refine wl_v (ov_assign rfl) rfl rfl rfl ?_
      refine wl_nil ?_
      refine ce_then ?_
      refine cw_block ?_
      refine cw_loop5 (fun (t : Int) (A4 : Option Addr) (c4 : Nat) (fs : List Ed) (q : Nat) => [(0, elp (some ⟨g, 0, none⟩) (0)), (3, elp (some ⟨g3, 0, none⟩) (0)), (4, elp (some ⟨g4, 0, none⟩) (0)), (5, elp (some ⟨g5, 0, none⟩) (0)), (6, elp (some ⟨g6, 0, none⟩) (0)), (7, .int .i64 (t))]) (fun (t : Int) (A4 : Option Addr) (c4 : Nat) (fs : List Ed) (q : Nat) => (blk g [.slice Ar (nr) (cr), .int .i64 (((q : Nat) : Int))] 99) :: (blk g6 [.int .i64 (((m : Nat) : Int)), .slice A4 (fs.length) (c4)] 25) :: (row 43 2 A4 (fs.length) (c4) (cells fE fs)) :: (blk g5 [.int .i64 (0), .slice none (0) (0)] 25) :: (blk g4 [.int .i64 (0), .slice none (0) (0)] 25) :: (blk g3 [.int .i64 (((m : Nat) : Int)), .slice A1 (es.length) (c1)] 25) :: F) (fun (t : Int) (A4 : Option Addr) (c4 : Nat) (fs : List Ed) (q : Nat) => (0 ≤ t ∧ t ≤ 3) ∧ fs.length ≤ c4 ∧ (fs.length : Int) ≤ 30 - 2 * t ∧ p ≤ q ∧ (q : Int) ≤ p + 4 - t) (fun (t : Int) (A4 : Option Addr) (c4 : Nat) (fs : List Ed) (q : Nat) => t.toNat) v_22 A14 c14 es (p + 1) ⟨by simp at h_22; omega, by omega, by simp at h_22; omega, by omega, by simp at h_22; omega⟩ (.cons rfl (.cons rfl (.cons rfl (.cons rfl (.cons rfl (.cons rfl (.nil))))))) (.cons (.head) (.consE (show blk g6 [.int .i64 (((m : Nat) : Int)), .slice A14 (0 + es.length) (c14)] 25 = blk g6 [.int .i64 (((m : Nat) : Int)), .slice A14 (es.length) (c14)] 25 by rw [Nat.zero_add]) (.head) (.consE (show row 43 2 A14 (0 + es.length) (c14) (cells fE (([]) ++ es)) = row 43 2 A14 (es.length) (c14) (cells fE es) by rw [Nat.zero_add, List.nil_append]) (.head) (.cons (.head) (.cons (.head) (.cons (.head) (.refl))))))) ?_
      intro R0 t A4 c4 fs q hk hR0
      obtain ⟨ht, hk2, hk3, hk4, hk5⟩ := hk
      refine cw_seq ?_
      refine cw_seq ?_
      refine cw_region ?_
      refine wl_v (ov_move rfl) rfl rfl rfl ?_
      refine wl_if (ov_gtr rfl rfl) rfl rfl rfl (fun c24 => ?_) (fun c24 => ?_)
      ·
        refine wl_nil ?_
        refine ce_then ?_
        refine cw_true rfl ?_
        refine cw_skip ?_
        refine ce_then ?_
        refine cw_seq ?_
        refine cw_block ?_
        refine cw_seq ?_
        refine cw_region ?_
        refine wl_v (ov_loadAgg (vs := [.int .i64 (((m : Nat) : Int)), .slice A4 (fs.length) (c4)]) tI25 (holds_blk (List.Mem.tail _ (List.Mem.head _))) rfl some_lit rfl rfl) rfl rfl rfl ?_
        refine wl_r (or_call (fv := []) (vs := [.agg #[.int .i64 (((m : Nat) : Int)), .slice A4 (fs.length) (c4)]]) (cs := []) en126 rfl rfl (call_x3 (fun w hw => switches_c w ((m : Nat) : Int) A4 fs.length c4 fs ((holds_row (List.Mem.tail _ (List.Mem.tail _ (List.Mem.head _)))) w hw) rfl hk2 (by omega)))) rfl rfl (kt3p rfl (fun A2_28 c2_28 qs_28 h_28 => ?_))
        refine wl_v (ov_assign rfl) rfl rfl rfl ?_
        refine wl_nil ?_
        refine ce_then ?_
        refine cw_seq ?_
        refine cw_region ?_
        refine wl_v (ov_move rfl) rfl rfl rfl ?_
        refine wl_v (ov_len (sliceI_spec sI112) rfl) rfl rfl rfl ?_
        refine wl_if (ov_gtr rfl rfl) rfl rfl rfl (fun c31 => ?_) (fun c31 => ?_)
        ·
          refine wl_nil ?_
          refine ce_then ?_
          refine cw_true rfl ?_
          refine cw_draw mixO [9] (.cons (.head) (.cons (.tail .head) (.cons (.tail .head) (.cons (.tail .head) (.cons (.tail .head) (.cons (.tail .head) ((.drop .refl)))))))) rfl ?_
          refine wg_take (i := 0) rfl (ov_loadAgg (vs := [.int .i64 (((m : Nat) : Int)), .slice A4 (fs.length) (c4)]) tI25 (holds_blk (List.Mem.tail _ (List.Mem.head _))) rfl some_lit rfl rfl) rfl rfl rfl (by kernel_rfl) (by kernel_rfl) (by kernel_rfl) (by kernel_rfl) ?_
          refine wg_takep (i := 1) rfl (ov_move rfl) rfl rfl rfl (by kernel_rfl) (by kernel_rfl) (by kernel_rfl) rfl ?_
          refine wg_takep (i := 2) rfl (ov_move rfl) rfl rfl rfl (by kernel_rfl) (by kernel_rfl) (by kernel_rfl) rfl ?_
          refine wg_takep (i := 3) rfl (ov_move rfl) rfl rfl rfl (by kernel_rfl) (by kernel_rfl) (by kernel_rfl) rfl ?_
          refine wg_takep (i := 4) rfl (ov_len (sliceI_spec sI112) rfl) rfl rfl rfl (by kernel_rfl) (by kernel_rfl) (by kernel_rfl) rfl ?_
          refine wg_one (i := 5) (by kernel_rfl) ?_
          refine go_r rfl rfl rfl rfl (or_call (fv := []) (vs := [elp (some ⟨g, 0, none⟩) (0), .int .i64 (((qs_28.length : Nat) : Int))]) (cs := []) en50 rfl rfl (call_o (.cons (.tail .head) (.cons (.head) (.cons (.head) (.cons (.head) (.cons (.head) (.cons (.head) (.cons (.head) (.refl)))))))) (fun w hw => pick_c w _ _ _ ((qs_28.length : Nat) : Int) g Ar nr cr bs q (Holds.keepF hAr ((.drop (.drop (.drop (.drop (.drop (.drop .refl)))))))) (by first | rfl | assumption | (simp; done) | (simp; omega)) lAr ⟨hy.1, hy.2.1, by omega⟩ (by omega) hw))) (kt1p rfl (fun v_37 h_37 => ?_))
          refine gk (.cons (.tail .head) (.cons (.tail .head) (.cons (.tail .head) (.cons (.tail .head) (.cons (.tail .head) (.cons (.tail .head) ((.drop .refl)))))))) ?_
          have h37 : 0 ≤ v_37 ∧ v_37 < (qs_28.length : Int) := (by first | omega | (simp at h_37; omega))
          refine wg_take (i := 6) rfl (ov_indexg sI112 tI116 rfl rfl (some_holds (q := v_37.toNat * 4) (holds_row (List.Mem.head _)) (by rw [cells_length fQ_len]; have hlt : v_37.toNat < qs_28.length := (by omega); omega)) (by omega) (show v_37.toNat < qs_28.length from (by omega))) rfl rfl rfl (by kernel_rfl) (by kernel_rfl) (by kernel_rfl) (by kernel_rfl) ?_
          refine wg_take (i := 7) rfl (ov_loadAgg (vs := [.int .i64 ((qs_28.getD v_37.toNat (0, 0, 0, 0)).1), .int .i64 ((qs_28.getD v_37.toNat (0, 0, 0, 0)).2.1), .int .i64 ((qs_28.getD v_37.toNat (0, 0, 0, 0)).2.2.1), .int .i64 ((qs_28.getD v_37.toNat (0, 0, 0, 0)).2.2.2)]) tI116 (holds_row (List.Mem.head _)) rfl (some_holds (q := v_37.toNat * 4) (holds_row (List.Mem.head _)) (by rw [cells_length fQ_len]; have hlt : v_37.toNat < qs_28.length := (by omega); omega)) (cells_elem fQ_len (0, 0, 0, 0) (show v_37.toNat < qs_28.length from (by omega))) rfl) rfl rfl rfl (by kernel_rfl) (by kernel_rfl) (by kernel_rfl) (by kernel_rfl) ?_
          refine wg_one (i := 8) (by kernel_rfl) ?_
          refine go_r rfl rfl rfl rfl (or_call (fv := []) (vs := [.agg #[.int .i64 (((m : Nat) : Int)), .slice A4 (fs.length) (c4)], .agg #[.int .i64 ((qs_28.getD v_37.toNat (0, 0, 0, 0)).1), .int .i64 ((qs_28.getD v_37.toNat (0, 0, 0, 0)).2.1), .int .i64 ((qs_28.getD v_37.toNat (0, 0, 0, 0)).2.2.1), .int .i64 ((qs_28.getD v_37.toNat (0, 0, 0, 0)).2.2.2)]]) (cs := []) en127 rfl rfl (call_x3 (fun w hw => switched_c w ((m : Nat) : Int) A4 fs.length c4 fs ((qs_28.getD v_37.toNat (0, 0, 0, 0)).1) ((qs_28.getD v_37.toNat (0, 0, 0, 0)).2.1) ((qs_28.getD v_37.toNat (0, 0, 0, 0)).2.2.1) ((qs_28.getD v_37.toNat (0, 0, 0, 0)).2.2.2) ((holds_row (List.Mem.tail _ (List.Mem.tail _ (List.Mem.tail _ (List.Mem.head _))))) w hw) rfl hk2 (by omega)))) (kt3p rfl (fun A2_40 c2_40 fs_40 h_40 => ?_))
          refine gk (.cons (.tail (.tail .head)) (.cons (.tail (.tail .head)) (.cons (.tail (.tail .head)) (.cons (.tail (.tail .head)) (.cons (.tail (.tail .head)) (.cons (.tail (.tail .head)) ((.drop (.drop .refl))))))))) ?_
          refine wg_one (i := 9) (by kernel_rfl) ?_
          refine go_late0 rfl rfl rfl rfl (or_store_blk (vs := [.int .i64 (((m : Nat) : Int)), .slice A2_40 (fs_40.length) (c2_40)]) (cs' := [.int .i64 (((m : Nat) : Int)), .slice A2_40 (fs_40.length) (c2_40)]) (.tail (.tail (.tail .head))) tI25 rfl rfl rfl rfl (Nat.le_of_ble_eq_true rfl) rfl) (kn0 ?_)
          refine wa_done (by kernel_rfl) ?_
          refine ce_block ?_
          refine ce_then ?_
          refine cw_region ?_
          refine wl_v (ov_move rfl) rfl rfl rfl ?_
          refine wl_v (ov_sub (r := t - 1) rfl rfl rfl (by omega)) rfl rfl rfl ?_
          refine wl_v (ov_assign rfl) rfl rfl rfl ?_
          refine wl_nil ?_
          exact fun ac_ w_ hs_ => hR0 (t - 1) A2_40 c2_40 fs_40 (q + 1) ⟨by omega, h_40.1, by omega, by omega, by omega⟩ (by omega) ac_ w_ (hs_.weaken (.cons rfl (.cons rfl (.cons rfl (.cons rfl (.cons rfl (.cons rfl (.nil))))))) (.cons (.tail (.tail .head)) (.cons (.head) (.cons (.head) (.cons (.tail (.tail .head)) (.cons (.tail (.tail .head)) (.cons (.tail (.tail .head)) ((.drop (.drop .refl))))))))))
        ·
          refine wl_nil ?_
          refine ce_then ?_
          refine cw_false rfl ?_
          refine cw_skip ?_
          refine ce_block ?_
          refine ce_then ?_
          refine cw_region ?_
          refine wl_v (ov_move rfl) rfl rfl rfl ?_
          refine wl_v (ov_sub (r := t - 1) rfl rfl rfl (by omega)) rfl rfl rfl ?_
          refine wl_v (ov_assign rfl) rfl rfl rfl ?_
          refine wl_nil ?_
          exact fun ac_ w_ hs_ => hR0 (t - 1) A4 c4 fs q ⟨by omega, hk2, by omega, by omega, by omega⟩ (by omega) ac_ w_ (hs_.weaken (.cons rfl (.cons rfl (.cons rfl (.cons rfl (.cons rfl (.cons rfl (.nil))))))) (.cons (.tail .head) (.cons (.tail .head) (.cons (.tail .head) (.cons (.tail .head) (.cons (.tail .head) (.cons (.tail .head) ((.drop .refl)))))))))
      ·
        refine wl_nil ?_
        refine ce_then ?_
        refine cw_false rfl ?_
        refine cw_exit ?_
        refine ce_then_exit ?_
        refine ce_then_exit ?_
        refine ce_hit ?_
        refine ce_then ?_
        refine cw_seq ?_
        refine cw_seq ?_
        refine cw_region ?_
        refine wl_v (ov_move rfl) rfl rfl rfl ?_
        refine wl_r (or_call (fv := []) (vs := [elp (some ⟨g, 0, none⟩) (0), .int .i64 (8)]) (cs := []) en50 rfl rfl (call_o (.cons (.head) (.cons (.head) (.cons (.head) (.cons (.head) (.cons (.head) (.cons (.head) (.refl))))))) (fun w hw => pick_c w _ _ _ 8 g Ar nr cr bs q (Holds.keepF hAr ((.drop (.drop (.drop (.drop (.drop .refl))))))) (by first | rfl | assumption | (simp; done) | (simp; omega)) lAr ⟨hy.1, hy.2.1, by omega⟩ (by first | assumption | omega | (simp; omega)) hw))) rfl rfl (kt1p rfl (fun v_42 h_42 => ?_))
        refine wl_nil ?_
        refine ce_then ?_
        refine cw_block ?_
        refine cw_seq ?_
        refine cw_region ?_
        refine wl_if (ov_eql rfl rfl) rfl rfl rfl (fun c44 => ?_) (fun c44 => ?_)
        ·
          refine wl_v (ov_assign rfl) rfl rfl rfl ?_
          refine wl_nil ?_
          refine ce_then ?_
          refine cw_true rfl ?_
          refine cw_seq ?_
          refine cw_draw mixO [] (.cons (.tail .head) (.cons (.tail .head) (.cons (.tail (.tail (.tail .head))) ((.drop (.drop (.drop .refl))))))) rfl ?_
          refine wg_take (i := 0) rfl (ov_loadAgg (vs := [.int .i64 (((m : Nat) : Int)), .slice A1 (es.length) (c1)]) tI25 (holds_blk (List.Mem.tail _ (List.Mem.tail _ (List.Mem.head _)))) rfl some_lit rfl rfl) rfl rfl rfl (by kernel_rfl) (by kernel_rfl) (by kernel_rfl) (by kernel_rfl) ?_
          refine wg_takep (i := 1) rfl (ov_move rfl) rfl rfl rfl (by kernel_rfl) (by kernel_rfl) (by kernel_rfl) rfl ?_
          refine wg_take (i := 2) rfl (ov_fieldAddr fI25_0 some_lit rfl) rfl rfl rfl (by kernel_rfl) (by kernel_rfl) (by kernel_rfl) (by kernel_rfl) ?_
          refine wg_take (i := 3) rfl (ov_load tI3 (holds_blk (List.Mem.tail _ (List.Mem.tail _ (List.Mem.head _)))) rfl rfl) rfl rfl rfl (by kernel_rfl) (by kernel_rfl) (by kernel_rfl) (by kernel_rfl) ?_
          refine wg_one (i := 4) (by kernel_rfl) ?_
          refine go_r rfl rfl rfl rfl (or_call (fv := []) (vs := [elp (some ⟨g, 0, none⟩) (0), .int .i64 (((m : Nat) : Int))]) (cs := []) en125 rfl rfl (call_o (.cons (.head) (.cons (.head) (.cons (.head) (.cons (.head) (.cons (.head) (.cons (.head) (.refl))))))) (fun w hw => aGraph_c w _ _ _ m g Ar nr cr bs (q + 1) (Holds.keepF hAr ((.drop (.drop (.drop (.drop (.drop .refl))))))) (by first | rfl | assumption | (simp; done) | (simp; omega)) lAr ⟨hy.1, hy.2.1, by omega⟩ (by omega) hw))) (kt4p rfl (fun A2_49 c2_49 es_49 q_49 h_49 => ?_))
          refine gk (.cons (.tail (.tail .head)) (.cons (.tail (.tail .head)) (.cons (.tail (.tail (.tail (.tail .head)))) ((.drop (.drop (.drop (.drop .refl)))))))) ?_
          refine wg_one (i := 5) (by kernel_rfl) ?_
          refine go_r0 rfl rfl rfl rfl (or_store_blk (vs := [.int .i64 (((m : Nat) : Int)), .slice A1 (es.length) (c1)]) (cs' := [.int .i64 (((m : Nat) : Int)), .slice A1 (es.length) (c1)]) (.tail (.tail (.tail (.tail (.tail .head))))) tI25 rfl rfl rfl rfl (Nat.le_of_ble_eq_true rfl) rfl) (kn0 ?_)
          refine gk (.cons (.tail (.tail (.tail .head))) (.cons (.tail (.tail (.tail .head))) (.cons (.tail (.tail (.tail (.tail .head)))) ((.drop (.drop (.drop (.drop .refl)))))))) ?_
          refine wg_one (i := 6) (by kernel_rfl) ?_
          refine go_r0 rfl rfl rfl rfl (or_store_blk (vs := [.int .i64 (((m : Nat) : Int)), .slice A2_49 (es_49.length) (c2_49)]) (cs' := [.int .i64 (((m : Nat) : Int)), .slice A2_49 (es_49.length) (c2_49)]) (.tail (.tail (.tail (.tail (.tail .head))))) tI25 rfl rfl rfl rfl (Nat.le_of_ble_eq_true rfl) rfl) (kn0 ?_)
          refine gk (.cons (.tail (.tail (.tail (.tail .head)))) (.cons (.tail (.tail (.tail (.tail .head)))) (.cons (.tail (.tail (.tail (.tail .head)))) ((.drop (.drop (.drop (.drop .refl)))))))) ?_
          refine wg_done (by kernel_rfl) ?_
          refine ce_then ?_
          refine cw_ret ?_
          refine ce_block_ret ?_
          refine ce_then_ret ?_
          refine ce_results (v := .tuple #[.agg #[.int .i64 (((m : Nat) : Int)), .slice A1 (es.length) (c1)], .agg #[.int .i64 (((m : Nat) : Int)), .slice A2_49 (es_49.length) (c2_49)]]) (res2 rfl (rv_c rfl tI25 rfl (List.Mem.tail _ (List.Mem.head _))) (rv_c rfl tI25 rfl (List.Mem.head _))) (fun w' hw => ?_)
          exact ⟨((m : Nat) : Int), A2_49, c2_49, es_49, q_49, ⟨⟨h_49.1.1, by have h9 := h_49.1.2.length_le; have h8 := prs_small m (by omega); omega, by omega, by omega⟩, by omega, by omega⟩, rfl, ((.cons (.tail (.tail .head)) (.cons (.tail (.tail .head)) ((.drop (.drop (.drop (.drop (.drop .refl))))))) : Keep _ _).ss hw)⟩
        ·
          refine wl_v (ov_assign rfl) rfl rfl rfl ?_
          refine wl_nil ?_
          refine ce_then ?_
          refine cw_false rfl ?_
          refine cw_seq ?_
          refine cw_region ?_
          refine wl_if (ov_eql rfl rfl) rfl rfl rfl (fun c51 => ?_) (fun c51 => ?_)
          ·
            refine wl_v (ov_assign rfl) rfl rfl rfl ?_
            refine wl_nil ?_
            refine ce_then ?_
            refine cw_true rfl ?_
            refine cw_seq ?_
            refine cw_draw mixO [] (.cons (.tail .head) (.cons (.tail .head) (.cons (.tail (.tail (.tail .head))) ((.drop (.drop (.drop .refl))))))) rfl ?_
            refine wg_take (i := 0) rfl (ov_loadAgg (vs := [.int .i64 (((m : Nat) : Int)), .slice A1 (es.length) (c1)]) tI25 (holds_blk (List.Mem.tail _ (List.Mem.tail _ (List.Mem.head _)))) rfl some_lit rfl rfl) rfl rfl rfl (by kernel_rfl) (by kernel_rfl) (by kernel_rfl) (by kernel_rfl) ?_
            refine wg_takep (i := 1) rfl (ov_move rfl) rfl rfl rfl (by kernel_rfl) (by kernel_rfl) (by kernel_rfl) rfl ?_
            refine wg_one (i := 2) (by kernel_rfl) ?_
            refine go_r rfl rfl rfl rfl (or_call (fv := []) (vs := [elp (some ⟨g, 0, none⟩) (0)]) (cs := []) en49 rfl rfl (call_o (.cons (.head) (.cons (.head) (.cons (.head) (.cons (.head) (.cons (.head) (.cons (.head) (.refl))))))) (fun w hw => someGraph_c w _ _ _ g Ar nr cr bs (q + 1) (Holds.keepF hAr ((.drop (.drop (.drop (.drop (.drop .refl))))))) (by first | rfl | assumption | (simp; done) | (simp; omega)) lAr ⟨hy.1, hy.2.1, by omega⟩ hw))) (kt5p rfl (fun N_54 A2_54 c2_54 es_54 q_54 h_54 => ?_))
            refine gk (.cons (.tail (.tail .head)) (.cons (.tail (.tail .head)) (.cons (.tail (.tail (.tail (.tail .head)))) ((.drop (.drop (.drop (.drop .refl)))))))) ?_
            refine wg_one (i := 3) (by kernel_rfl) ?_
            refine go_r0 rfl rfl rfl rfl (or_store_blk (vs := [.int .i64 (((m : Nat) : Int)), .slice A1 (es.length) (c1)]) (cs' := [.int .i64 (((m : Nat) : Int)), .slice A1 (es.length) (c1)]) (.tail (.tail (.tail (.tail (.tail .head))))) tI25 rfl rfl rfl rfl (Nat.le_of_ble_eq_true rfl) rfl) (kn0 ?_)
            refine gk (.cons (.tail (.tail (.tail .head))) (.cons (.tail (.tail (.tail .head))) (.cons (.tail (.tail (.tail (.tail .head)))) ((.drop (.drop (.drop (.drop .refl)))))))) ?_
            refine wg_one (i := 4) (by kernel_rfl) ?_
            refine go_r0 rfl rfl rfl rfl (or_store_blk (vs := [.int .i64 (N_54), .slice A2_54 (es_54.length) (c2_54)]) (cs' := [.int .i64 (N_54), .slice A2_54 (es_54.length) (c2_54)]) (.tail (.tail (.tail (.tail (.tail .head))))) tI25 rfl rfl rfl rfl (Nat.le_of_ble_eq_true rfl) rfl) (kn0 ?_)
            refine gk (.cons (.tail (.tail (.tail (.tail .head)))) (.cons (.tail (.tail (.tail (.tail .head)))) (.cons (.tail (.tail (.tail (.tail .head)))) ((.drop (.drop (.drop (.drop .refl)))))))) ?_
            refine wg_done (by kernel_rfl) ?_
            refine ce_then ?_
            refine cw_ret ?_
            refine ce_block_ret ?_
            refine ce_then_ret ?_
            refine ce_results (v := .tuple #[.agg #[.int .i64 (((m : Nat) : Int)), .slice A1 (es.length) (c1)], .agg #[.int .i64 (N_54), .slice A2_54 (es_54.length) (c2_54)]]) (res2 rfl (rv_c rfl tI25 rfl (List.Mem.tail _ (List.Mem.head _))) (rv_c rfl tI25 rfl (List.Mem.head _))) (fun w' hw => ?_)
            exact ⟨N_54, A2_54, c2_54, es_54, q_54, ⟨⟨h_54.1.1, h_54.1.2.1, h_54.1.2.2.1, h_54.1.2.2.2⟩, by omega, by omega⟩, rfl, ((.cons (.tail (.tail .head)) (.cons (.tail (.tail .head)) ((.drop (.drop (.drop (.drop (.drop .refl))))))) : Keep _ _).ss hw)⟩
          ·
            refine wl_v (ov_assign rfl) rfl rfl rfl ?_
            refine wl_nil ?_
            refine ce_then ?_
            refine cw_false rfl ?_
            refine cw_skip ?_
            refine ce_block ?_
            refine ce_then ?_
            refine cw_seq ?_
            refine cw_draw mixO [] (.cons (.head) (.cons (.head) (.cons (.head) (.cons (.tail (.tail .head)) ((.drop (.drop .refl))))))) rfl ?_
            refine wg_take (i := 0) rfl (ov_loadAgg (vs := [.int .i64 (((m : Nat) : Int)), .slice A1 (es.length) (c1)]) tI25 (holds_blk (List.Mem.tail _ (List.Mem.tail _ (List.Mem.tail _ (List.Mem.head _))))) rfl some_lit rfl rfl) rfl rfl rfl (by kernel_rfl) (by kernel_rfl) (by kernel_rfl) (by kernel_rfl) ?_
            refine wg_take (i := 1) rfl (ov_loadAgg (vs := [.int .i64 (((m : Nat) : Int)), .slice A4 (fs.length) (c4)]) tI25 (holds_blk (List.Mem.tail _ (List.Mem.head _))) rfl some_lit rfl rfl) rfl rfl rfl (by kernel_rfl) (by kernel_rfl) (by kernel_rfl) (by kernel_rfl) ?_
            refine wg_one (i := 2) (by kernel_rfl) ?_
            refine go_r0 rfl rfl rfl rfl (or_store_blk (vs := [.int .i64 (((m : Nat) : Int)), .slice A1 (es.length) (c1)]) (cs' := [.int .i64 (((m : Nat) : Int)), .slice A1 (es.length) (c1)]) (.tail (.tail (.tail (.tail .head)))) tI25 rfl rfl rfl rfl (Nat.le_of_ble_eq_true rfl) rfl) (kn0 ?_)
            refine gk (.cons (.tail .head) (.cons (.tail .head) (.cons (.tail .head) (.cons (.tail (.tail .head)) ((.drop (.drop .refl))))))) ?_
            refine wg_one (i := 3) (by kernel_rfl) ?_
            refine go_r0 rfl rfl rfl rfl (or_store_blk (vs := [.int .i64 (((m : Nat) : Int)), .slice A4 (fs.length) (c4)]) (cs' := [.int .i64 (((m : Nat) : Int)), .slice A4 (fs.length) (c4)]) (.tail (.tail (.tail (.tail .head)))) tI25 rfl rfl rfl rfl (Nat.le_of_ble_eq_true rfl) rfl) (kn0 ?_)
            refine gk (.cons (.tail (.tail .head)) (.cons (.tail (.tail .head)) (.cons (.tail (.tail .head)) (.cons (.tail (.tail .head)) ((.drop (.drop .refl))))))) ?_
            refine wg_done (by kernel_rfl) ?_
            refine ce_then ?_
            refine cw_ret ?_
            refine ce_results (v := .tuple #[.agg #[.int .i64 (((m : Nat) : Int)), .slice A1 (es.length) (c1)], .agg #[.int .i64 (((m : Nat) : Int)), .slice A4 (fs.length) (c4)]]) (res2 rfl (rv_c rfl tI25 rfl (List.Mem.tail _ (List.Mem.head _))) (rv_c rfl tI25 rfl (List.Mem.head _))) (fun w' hw => ?_)
            exact ⟨((m : Nat) : Int), A4, c4, fs, q + 1, ⟨⟨hk2, by omega, by omega, by omega⟩, by omega, by omega⟩, rfl, ((.cons (.tail (.tail (.tail (.tail .head)))) (.cons (.tail (.tail .head)) ((.drop (.drop (.drop (.drop .refl)))))) : Keep _ _).ss hw)⟩
    ·
      exact absurd (hg.valid (by omega)) c17
set_option maxRecDepth 100000 in
theorem DrawMapOf_c (w : World) (Ar : Option Addr) (nr : Nat) (cr : Nat) (bs : List (Nat)) (hAr : At w Ar (cells fY bs)) (eAr : bs.length = nr) (lAr : nr ≤ cr) (hb : ∀ x ∈ bs, x < 256) : Calls Try.prog 32 #[.slice Ar (nr) (cr)] w (Ret fun rv w' => ∃ m A1 c1 es N2 A2 c2 fs, ((m ≤ 5 ∧ es.length ≤ c1 ∧ es.length ≤ 100) ∧ fs.length ≤ c2 ∧ fs.length ≤ 200 ∧ -1 ≤ N2 ∧ N2 ≤ 8) ∧ rv = .tuple #[.agg #[.int .i64 (((m : Nat) : Int)), .slice A1 (es.length) (c1)], .agg #[.int .i64 (N2), .slice A2 (fs.length) (c2)]] ∧ New w w' [row 43 2 A1 (es.length) (c1) (cells fE es), row 43 2 A2 (fs.length) (c2) (cells fE fs)]) := by
  have oAr := hAr.atB
  subst eAr
  refine fn_enter (args := [.slice Ar (bs.length) (cr)]) Try.func32 rfl Try.ntmps32 rfl (SS.start w) ?_
  refine cw_seq ?_
  refine cw_region ?_
  refine wl_r (or_alloc tI25 rfl) rfl rfl (kt1 rfl (fun g2 => ?_))
  refine wl_r (or_alloc tI25 rfl) rfl rfl (kt1 rfl (fun g3 => ?_))
  refine wl_nil ?_
  refine ce_then ?_
  refine cw_seq ?_
  refine cw_region ?_
  refine wl_v (ov_move rfl) rfl rfl rfl ?_
  refine wl_r (or_call (fv := []) (vs := [.slice Ar (bs.length) (cr)]) (cs := []) en48 rfl rfl (call_x2 (fun w hw => newReader_c w Ar bs.length cr bs ((holds_old oAr) w hw) rfl lAr))) rfl rfl (kt2p rfl (fun g_7 n2_7 h_7 => ?_))
  refine wl_v (ov_assign rfl) rfl rfl rfl ?_
  refine wl_nil ?_
  refine ce_then ?_
  refine cw_seq ?_
  refine cw_region ?_
  refine wl_v (ov_move rfl) rfl rfl rfl ?_
  refine wl_r (or_call (fv := []) (vs := [elp (some ⟨g_7, 0, none⟩) (0)]) (cs := []) en79 rfl rfl (call_o (.cons (.head) (.cons (.head) (.cons (.head) (.nil)))) (fun w hw => smallGraph_c w _ _ _ g_7 Ar n2_7 cr (bs.take n2_7) 0 (holds_takeC (k := n2_7) fY_len (holds_old oAr)) (by rw [List.length_take]; omega) (by omega) ⟨by omega, fun x hx => hb x (List.mem_of_mem_take hx), by omega⟩ hw))) rfl rfl (kt5p rfl (fun m_9 A2_9 c2_9 es_9 q_9 h_9 => ?_))
  have hg9 := gr_of_sublist h_9.2.1.2
  have hl9 := hg9.len (by omega)
  refine wl_r (or_alloc tI25 rfl) rfl rfl (kt1 rfl (fun g5 => ?_))
  refine wl_r0 (or_store_blk (vs := [.int .i64 (((m_9 : Nat) : Int)), .slice A2_9 (es_9.length) (c2_9)]) (cs' := [.int .i64 (((m_9 : Nat) : Int)), .slice A2_9 (es_9.length) (c2_9)]) (.head) tI25 rfl rfl rfl rfl (Nat.le_of_ble_eq_true rfl) rfl) rfl rfl (kn0 ?_)
  refine wl_nil ?_
  refine ce_then ?_
  refine cw_seq ?_
  refine cw_seq ?_
  refine cw_region ?_
  refine wl_v (ov_move rfl) rfl rfl rfl ?_
  refine wl_r (or_call (fv := []) (vs := [elp (some ⟨g_7, 0, none⟩) (0), .int .i64 (3)]) (cs := []) en50 rfl rfl (call_o (.cons (.tail (.tail .head)) (.cons (.head) (.cons (.head) (.cons (.head) (.cons (.head) (.nil)))))) (fun w hw => pick_c w _ _ _ 3 g_7 Ar n2_7 cr (bs.take n2_7) q_9 (holds_takeC (k := n2_7) fY_len (holds_old oAr)) (by rw [List.length_take]; omega) (by omega) ⟨by omega, fun x hx => hb x (List.mem_of_mem_take hx), by omega⟩ (by first | assumption | omega | (simp; omega)) hw))) rfl rfl (kt1p rfl (fun v_11 h_11 => ?_))
  refine wl_if (ov_eql rfl rfl) rfl rfl rfl (fun c12 => ?_) (fun c12 => ?_)
  ·
    refine wl_nil ?_
    refine ce_then ?_
    refine cw_true rfl ?_
    refine cw_seq ?_
    refine cw_region ?_
    refine wl_v (ov_move rfl) rfl rfl rfl ?_
    refine wl_v (ov_loadAgg (vs := [.int .i64 (((m_9 : Nat) : Int)), .slice A2_9 (es_9.length) (c2_9)]) tI25 (holds_blk (List.Mem.tail _ (List.Mem.head _))) rfl some_lit rfl rfl) rfl rfl rfl ?_
    refine wl_r (or_call (fv := []) (vs := [elp (some ⟨g_7, 0, none⟩) (0), .agg #[.int .i64 (((m_9 : Nat) : Int)), .slice A2_9 (es_9.length) (c2_9)]]) (cs := []) en80 rfl rfl (call_o (.cons (.head) (.cons (.head) (.cons (.head) (.cons (.head) (.cons (.head) (.nil)))))) (fun w hw => twoGraphs_c w _ _ _ m_9 A2_9 es_9.length c2_9 es_9 g_7 Ar n2_7 cr (bs.take n2_7) (q_9 + 1) (holds_row (List.Mem.tail _ (List.Mem.head _))) rfl h_9.2.1.1 (holds_takeC (k := n2_7) fY_len (holds_old oAr)) (by rw [List.length_take]; omega) (by omega) ⟨by omega, fun x hx => hb x (List.mem_of_mem_take hx), by omega⟩ hg9 (by omega) hw))) rfl rfl (kt5p rfl (fun N2_15 A2_15 c2_15 fs_15 q_15 h_15 => ?_))
    refine wl_v (ov_extract rfl rfl) rfl rfl rfl ?_
    refine wl_v (ov_extract rfl rfl) rfl rfl rfl ?_
    refine wl_r0 (or_store_blk (vs := [.int .i64 (((m_9 : Nat) : Int)), .slice A2_9 (es_9.length) (c2_9)]) (cs' := [.int .i64 (((m_9 : Nat) : Int)), .slice A2_9 (es_9.length) (c2_9)]) (.tail (.tail (.tail (.tail (.tail .head))))) tI25 rfl rfl rfl rfl (Nat.le_of_ble_eq_true rfl) rfl) rfl rfl (kn0 ?_)
    refine wl_r0 (or_store_blk (vs := [.int .i64 (N2_15), .slice A2_15 (fs_15.length) (c2_15)]) (cs' := [.int .i64 (N2_15), .slice A2_15 (fs_15.length) (c2_15)]) (.tail (.tail (.tail (.tail (.tail .head))))) tI25 rfl rfl rfl rfl (Nat.le_of_ble_eq_true rfl) rfl) rfl rfl (kn0 ?_)
    refine wl_nil ?_
    refine ce_then ?_
    refine cw_ret ?_
    refine ce_then_ret ?_
    refine ce_results (v := .tuple #[.agg #[.int .i64 (((m_9 : Nat) : Int)), .slice A2_9 (es_9.length) (c2_9)], .agg #[.int .i64 (N2_15), .slice A2_15 (fs_15.length) (c2_15)]]) (res2 rfl (rv_c rfl tI25 rfl (List.Mem.tail _ (List.Mem.head _))) (rv_c rfl tI25 rfl (List.Mem.head _))) (fun w' hw => ?_)
    exact ⟨m_9, A2_9, c2_9, es_9, N2_15, A2_15, c2_15, fs_15, ⟨⟨by omega, h_9.2.1.1, by omega⟩, h_15.1.1, by omega, by omega, by omega⟩, rfl, ((.cons (.tail (.tail (.tail (.tail (.tail .head))))) (.cons (.tail (.tail .head)) (.nil)) : Keep _ _).ss hw).to_new⟩
  ·
    refine wl_nil ?_
    refine ce_then ?_
    refine cw_false rfl ?_
    refine cw_skip ?_
    refine ce_then ?_
    refine cw_seq ?_
    refine cw_draw mixO [] (.cons (.tail .head) (.cons (.tail .head) (.nil))) rfl ?_
    refine wg_take (i := 0) rfl (ov_loadAgg (vs := [.int .i64 (((m_9 : Nat) : Int)), .slice A2_9 (es_9.length) (c2_9)]) tI25 (holds_blk (List.Mem.head _)) rfl some_lit rfl rfl) rfl rfl rfl (by kernel_rfl) (by kernel_rfl) (by kernel_rfl) (by kernel_rfl) ?_
    refine wg_takep (i := 1) rfl (ov_move rfl) rfl rfl rfl (by kernel_rfl) (by kernel_rfl) (by kernel_rfl) rfl ?_
    refine wg_take (i := 2) rfl (ov_loadAgg (vs := [.int .i64 (((m_9 : Nat) : Int)), .slice A2_9 (es_9.length) (c2_9)]) tI25 (holds_blk (List.Mem.head _)) rfl some_lit rfl rfl) rfl rfl rfl (by kernel_rfl) (by kernel_rfl) (by kernel_rfl) (by kernel_rfl) ?_
    refine wg_one (i := 3) (by kernel_rfl) ?_
    refine go_r rfl rfl rfl rfl (or_call (fv := []) (vs := [elp (some ⟨g_7, 0, none⟩) (0), .agg #[.int .i64 (((m_9 : Nat) : Int)), .slice A2_9 (es_9.length) (c2_9)]]) (cs := []) en81 rfl rfl (call_o (.cons (.head) (.cons (.head) (.cons (.head) (.cons (.head) (.cons (.head) (.nil)))))) (fun w hw => moved_c w _ _ _ m_9 A2_9 es_9.length c2_9 es_9 g_7 Ar n2_7 cr (bs.take n2_7) (q_9 + 1) (holds_row (List.Mem.tail _ (List.Mem.head _))) rfl h_9.2.1.1 (holds_takeC (k := n2_7) fY_len (holds_old oAr)) (by rw [List.length_take]; omega) (by omega) ⟨by omega, fun x hx => hb x (List.mem_of_mem_take hx), by omega⟩ hg9 (by omega) hw))) (kt4p rfl (fun A2_21 c2_21 fs_21 q_21 h_21 => ?_))
    refine gk (.cons (.tail (.tail .head)) (.cons (.tail (.tail .head)) (.nil))) ?_
    refine wg_one (i := 4) (by kernel_rfl) ?_
    refine go_r0 rfl rfl rfl rfl (or_store_blk (vs := [.int .i64 (((m_9 : Nat) : Int)), .slice A2_9 (es_9.length) (c2_9)]) (cs' := [.int .i64 (((m_9 : Nat) : Int)), .slice A2_9 (es_9.length) (c2_9)]) (.tail (.tail (.tail (.tail (.tail .head))))) tI25 rfl rfl rfl rfl (Nat.le_of_ble_eq_true rfl) rfl) (kn0 ?_)
    refine gk (.cons (.tail (.tail (.tail .head))) (.cons (.tail (.tail (.tail .head))) (.nil))) ?_
    refine wg_one (i := 5) (by kernel_rfl) ?_
    refine go_r0 rfl rfl rfl rfl (or_store_blk (vs := [.int .i64 (((m_9 : Nat) : Int)), .slice A2_21 (fs_21.length) (c2_21)]) (cs' := [.int .i64 (((m_9 : Nat) : Int)), .slice A2_21 (fs_21.length) (c2_21)]) (.tail (.tail (.tail (.tail (.tail .head))))) tI25 rfl rfl rfl rfl (Nat.le_of_ble_eq_true rfl) rfl) (kn0 ?_)
    refine gk (.cons (.tail (.tail (.tail (.tail .head)))) (.cons (.tail (.tail (.tail (.tail .head)))) (.nil))) ?_
    refine wg_done (by kernel_rfl) ?_
    refine ce_then ?_
    refine cw_ret ?_
    refine ce_results (v := .tuple #[.agg #[.int .i64 (((m_9 : Nat) : Int)), .slice A2_9 (es_9.length) (c2_9)], .agg #[.int .i64 (((m_9 : Nat) : Int)), .slice A2_21 (fs_21.length) (c2_21)]]) (res2 rfl (rv_c rfl tI25 rfl (List.Mem.tail _ (List.Mem.head _))) (rv_c rfl tI25 rfl (List.Mem.head _))) (fun w' hw => ?_)
    exact ⟨m_9, A2_9, c2_9, es_9, ((m_9 : Nat) : Int), A2_21, c2_21, fs_21, ⟨⟨by omega, h_9.2.1.1, by omega⟩, h_21.1.1, by omega, by omega, by omega⟩, rfl, ((.cons (.tail (.tail (.tail (.tail (.tail .head))))) (.cons (.tail (.tail .head)) (.nil)) : Keep _ _).ss hw).to_new⟩
end Go.Proofs.Ytfjgfocjogfodaa.W43
