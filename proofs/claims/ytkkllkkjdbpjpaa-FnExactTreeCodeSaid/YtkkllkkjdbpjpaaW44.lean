/- Walks of functions of the given program: each returns what its Lean function says and leaves the memory that was there as it was. Conditions: those of each theorem. -/
import Derived.Test.YtkkllkkjdbpjpaaSm
import Derived.Test.YtkkllkkjdbpjpaaProg
import Derived.Test.YtkkllkkjdbpjpaaPl
import Derived.Test.YtkkllkkjdbpjpaaPo
import Derived.Test.YtkkllkkjdbpjpaaPd
import Derived.Test.YtkkllkkjdbpjpaaPe
import Derived.Test.YtkkllkkjdbpjpaaPh
import Derived.Test.YtkkllkkjdbpjpaaPm
import Derived.Test.YtkkllkkjdbpjpaaPc
import Derived.Test.YtkkllkkjdbpjpaaPs
import Derived.Test.YtkkllkkjdbpjpaaPt
import Derived.Test.YtkkllkkjdbpjpaaPu
import Derived.Test.YtkkllkkjdbpjpaaPv
import Derived.Test.YtkkllkkjdbpjpaaPw
import Derived.Test.YtkkllkkjdbpjpaaPx
import Derived.Test.YtkkllkkjdbpjpaaPy
import Derived.Test.YtkkllkkjdbpjpaaPz
import Derived.Test.YtkkllkkjdbpjpaaPr
import Derived.Test.YtkkllkkjdbpjpaaPa
import Derived.Test.YtkkllkkjdbpjpaaPn
import Derived.Test.YtkkllkkjdbpjpaaPj
import Derived.Test.YtkkllkkjdbpjpaaPq
import Derived.Test.YtkkllkkjdbpjpaaSp
import Derived.Test.YtkkllkkjdbpjpaaPp
import Derived.Test.YtkkllkkjdbpjpaaSs
import Derived.Test.YtkkllkkjdbpjpaaSr
import Derived.Test.YtkkllkkjdbpjpaaPb
import Derived.Test.YtkkllkkjdbpjpaaSe
import Derived.Test.YtkkllkkjdbpjpaaSf
import Derived.Test.YtkkllkkjdbpjpaaT
import Derived.Test.YtkkllkkjdbpjpaaW1
import Derived.Test.YtkkllkkjdbpjpaaW5
import Derived.Test.YtkkllkkjdbpjpaaW11
import Derived.Test.YtkkllkkjdbpjpaaW13
import Derived.KernelRfl
namespace Go.Proofs.Ytkkllkkjdbpjpaa.W44
open Go.Sx Go.RowKit Go.Proofs.Ytkkllkkjdbpjpaa.T Go.Proofs.Ytkkllkkjdbpjpaa.W1 Go.Proofs.Ytkkllkkjdbpjpaa.W5 Go.Proofs.Ytkkllkkjdbpjpaa.W11 Go.Proofs.Ytkkllkkjdbpjpaa.W13
open Go.Plain
set_option linter.unusedVariables false
set_option maxRecDepth 100000 in
theorem dropEdgeX_c (w : World) (N : Int) (A : Option Addr) (n : Nat) (c : Nat) (es : List (Int × Int)) (a : Int) (b : Int) (hA : At w A (cells fE es)) (eA : es.length = n) (lA : n ≤ c) (hs : es.length ≤ 1000) : Calls Try.prog 88 #[.agg #[.int .i64 (N), .slice A (n) (c)], .int .i64 (a), .int .i64 (b)] w (Ret fun rv w' => ∃ A2 c2, ((delE es a b).length ≤ c2) ∧ rv = .agg #[.int .i64 (N), .slice A2 ((delE es a b).length) (c2)] ∧ New w w' [row 65 2 A2 ((delE es a b).length) (c2) (cells fE (delE es a b))]) := by
  have oA := hA.atB
  subst eA
  refine fn_enter (args := [.agg #[.int .i64 (N), .slice A (es.length) (c)], .int .i64 (a), .int .i64 (b)]) Try.func88 rfl Try.ntmps88 rfl (SS.start w) ?_
  refine cw_seq ?_
  refine cw_region ?_
  refine wl_r (or_box rfl rfl) rfl rfl (kt1 rfl (fun g3 => ?_))
  refine wl_r (or_alloc tI25 rfl) rfl rfl (kt1 rfl (fun g6 => ?_))
  refine wl_nil ?_
  refine ce_then ?_
  refine cw_seq ?_
  refine cw_region ?_
  refine wl_v (ov_fieldAddr fI25_0 some_lit rfl) rfl rfl rfl ?_
  refine wl_v (ov_load tI3 (holds_blk (List.Mem.tail _ (List.Mem.head _))) rfl rfl) rfl rfl rfl ?_
  refine wl_r (or_buildSlice (e := 65) (size := 2) (is := []) (vs := []) (cs := cells fE ([])) rfl rfl rfl (by decide) (fun _ => by kernel_rfl)) rfl rfl (kt1 rfl (fun g12 => ?_))
  refine wl_v (ov_build (is := [0, 1]) (vs := [.int .i64 (N), .slice (some ⟨g12, 0, none⟩) (0) (0)]) (v := .agg #[.int .i64 (N), .slice (some ⟨g12, 0, none⟩) (0) (0)]) rfl rfl (fun _ => by kernel_rfl)) rfl rfl rfl ?_
  refine wl_r (or_alloc tI25 rfl) rfl rfl (kt1 rfl (fun g7 => ?_))
  refine wl_r0 (or_store_blk (vs := [.int .i64 (N), .slice (some ⟨g12, 0, none⟩) (0) (0)]) (cs' := [.int .i64 (N), .slice (some ⟨g12, 0, none⟩) (0) (0)]) (.head) tI25 rfl rfl rfl rfl (Nat.le_of_ble_eq_true rfl) rfl) rfl rfl (kn0 ?_)
  refine wl_nil ?_
  refine ce_then ?_
  refine cw_seq ?_
  refine cw_seq ?_
  refine cw_region ?_
  refine wl_v (ov_assign rfl) rfl rfl rfl ?_
  refine wl_nil ?_
  refine ce_then ?_
  refine cw_block ?_
  refine cw_loop3 (fun (k : Nat) (A3 : Option Addr) (c3 : Nat) => [(1, .int .i64 (a)), (2, .int .i64 (b)), (3, elp (some ⟨g3, 0, none⟩) (0)), (6, elp (some ⟨g6, 0, none⟩) (0)), (7, elp (some ⟨g7, 0, none⟩) (0)), (8, .int .i64 (((k : Nat) : Int)))]) (fun (k : Nat) (A3 : Option Addr) (c3 : Nat) => [blk g7 [.int .i64 (N), .slice A3 ((delE (es.take k) a b).length) (c3)] 25, row 65 2 A3 ((delE (es.take k) a b).length) (c3) (cells fE (delE (es.take k) a b)), blk g6 [.int .i64 (0), .slice none (0) (0)] 25, blk g3 [.int .i64 (N), .slice A (es.length) (c)] 25]) (fun (k : Nat) (A3 : Option Addr) (c3 : Nat) => k ≤ es.length ∧ (delE (es.take k) a b).length ≤ c3) (fun (k : Nat) (A3 : Option Addr) (c3 : Nat) => es.length - k) 0 (some ⟨g12, 0, none⟩) 0 ⟨by omega, Nat.le_refl _⟩ (.cons rfl (.cons rfl (.cons rfl (.cons rfl (.cons rfl (.cons (congrArg (fun z => some (Value.int .i64 z)) (show 0 = ((0 : Nat) : Int) by first | omega | rfl | (simp; done))) (.nil))))))) (.consE (show blk g7 [.int .i64 (N), .slice (some ⟨g12, 0, none⟩) (0) (0)] 25 = blk g7 [.int .i64 (N), .slice (some ⟨g12, 0, none⟩) ((delE (es.take 0) a b).length) (0)] 25 by rfl) (.head) (.consE (show row 65 2 (some ⟨g12, 0, none⟩) (0) (0) (cells fE ([])) = row 65 2 (some ⟨g12, 0, none⟩) ((delE (es.take 0) a b).length) (0) (cells fE (delE (es.take 0) a b)) by rfl) (.head) (.cons (.head) (.cons (.head) (.nil))))) ?_
  intro R0 k A3 c3 hk hR0
  obtain ⟨hk1, hk2⟩ := hk
  have hdl := delE_le (es.take k) a b
  have hdt : (es.take k).length ≤ es.length := by rw [List.length_take]; omega
  refine cw_seq ?_
  refine cw_seq ?_
  refine cw_region ?_
  refine wl_v (ov_move rfl) rfl rfl rfl ?_
  refine wl_v (ov_fieldAddr fI25_1 some_lit rfl) rfl rfl rfl ?_
  refine wl_v (ov_load tI23 (holds_blk (List.Mem.tail _ (List.Mem.tail _ (List.Mem.tail _ (List.Mem.head _))))) rfl rfl) rfl rfl rfl ?_
  refine wl_v (ov_len (sliceI_spec sI23) rfl) rfl rfl rfl ?_
  refine wl_if (ov_lss rfl rfl) rfl rfl rfl (fun c18 => ?_) (fun c18 => ?_)
  ·
    refine wl_nil ?_
    refine ce_then ?_
    refine cw_true rfl ?_
    refine cw_skip ?_
    refine ce_then ?_
    refine cw_seq ?_
    refine cw_block ?_
    refine cw_seq ?_
    refine cw_region ?_
    refine wl_v (ov_fieldAddr fI25_1 some_lit rfl) rfl rfl rfl ?_
    refine wl_v (ov_load tI23 (holds_blk (List.Mem.tail _ (List.Mem.tail _ (List.Mem.tail _ (List.Mem.head _))))) rfl rfl) rfl rfl rfl ?_
    refine wl_v (ov_move rfl) rfl rfl rfl ?_
    refine wl_v (ov_index (k := k) (c := c) sI23 tI65 rfl rfl (some_holds (q := k * 2) (holds_old oA) (by rw [cells_length fE_len]; have hlt : k < es.length := (by omega); omega)) (show k < es.length from (by omega))) rfl rfl rfl ?_
    refine wl_v (ov_loadAgg (vs := [.int .i64 ((es.getD k (0, 0)).1), .int .i64 ((es.getD k (0, 0)).2)]) tI65 (holds_old oA) rfl (some_holds (q := k * 2) (holds_old oA) (by rw [cells_length fE_len]; have hlt : k < es.length := (by omega); omega)) (cells_elem fE_len (0, 0) (show k < es.length from (by omega))) rfl) rfl rfl rfl ?_
    refine wl_r (or_alloc tI65 rfl) rfl rfl (kt1 rfl (fun g9 => ?_))
    refine wl_r0 (or_store_blk (vs := [.int .i64 ((es.getD k (0, 0)).1), .int .i64 ((es.getD k (0, 0)).2)]) (cs' := [.int .i64 ((es.getD k (0, 0)).1), .int .i64 ((es.getD k (0, 0)).2)]) (.head) tI65 rfl rfl rfl rfl (Nat.le_of_ble_eq_true rfl) rfl) rfl rfl (kn0 ?_)
    refine wl_nil ?_
    refine ce_then ?_
    refine cw_seq ?_
    refine cw_region ?_
    refine wl_v (ov_fieldAddr fI65_0 some_lit rfl) rfl rfl rfl ?_
    refine wl_v (ov_load tI3 (holds_blk (List.Mem.head _)) rfl rfl) rfl rfl rfl ?_
    refine wl_v (ov_move rfl) rfl rfl rfl ?_
    refine wl_v (ov_move rfl) rfl rfl rfl ?_
    refine wl_v (ov_min (r := min a b) rfl rfl (by first | omega | (split <;> omega))) rfl rfl rfl ?_
    refine wl_if (ov_neq rfl rfl) rfl rfl rfl (fun c31 => ?_) (fun c31 => ?_)
    ·
      refine wl_v (ov_move rfl) rfl rfl rfl ?_
      refine wl_not rfl rfl rfl rfl rfl rfl ?_
      refine wl_not rfl rfl rfl rfl rfl rfl ?_
      refine wl_not rfl rfl rfl rfl rfl rfl ?_
      refine wl_not rfl rfl rfl rfl rfl rfl ?_
      refine wl_not rfl rfl rfl rfl rfl rfl ?_
      refine wl_not rfl rfl rfl rfl rfl rfl ?_
      refine wl_v (ov_pick_t rfl rfl) rfl rfl rfl ?_
      refine wl_nil ?_
      refine ce_then ?_
      refine cw_true rfl ?_
      refine cw_region ?_
      refine wl_v (ov_fieldAddr fI25_1 some_lit rfl) rfl rfl rfl ?_
      refine wl_v (ov_load tI23 (holds_blk (List.Mem.tail _ (List.Mem.head _))) rfl rfl) rfl rfl rfl ?_
      refine wl_v (ov_loadAgg (vs := [.int .i64 ((es.getD k (0, 0)).1), .int .i64 ((es.getD k (0, 0)).2)]) tI65 (holds_blk (List.Mem.head _)) rfl some_lit rfl rfl) rfl rfl rfl ?_
      refine wl_r (or_buildSlice (e := 65) (size := 2) (is := [0]) (vs := [.agg #[.int .i64 ((es.getD k (0, 0)).1), .int .i64 ((es.getD k (0, 0)).2)]]) (cs := cells fE ([((es.getD k (0, 0)).1, (es.getD k (0, 0)).2)])) rfl rfl rfl (by decide) (fun _ => by kernel_rfl)) rfl rfl (kt1 rfl (fun g43 => ?_))
      refine wl_r (or_append (c2 := 1) sI23 tI65 rfl (by decide) rfl rfl (.tail (.tail (.tail .head))) (holds_row (List.Mem.head _)) (by rw [cells_length fE_len]; try simp) (one_cells fE_one _) cells_append (by omega) (by omega)) rfl rfl (kt2p rfl (fun A44 c44 h44 => ?_))
      refine wl_v (ov_fieldAddr fI25_1 some_lit rfl) rfl rfl rfl ?_
      refine wl_r0 (or_store_blk (vs := [.slice A44 (((delE (es.take k) a b).length) + 1) (c44)]) (cs' := [.int .i64 (N), .slice A44 (((delE (es.take k) a b).length) + 1) (c44)]) (.tail (.tail (.tail .head))) tI23 rfl rfl rfl rfl (Nat.le_of_ble_eq_true rfl) rfl) rfl rfl (kn0 ?_)
      refine wl_nil ?_
      refine ce_block ?_
      refine ce_then ?_
      refine cw_region ?_
      refine wl_v (ov_move rfl) rfl rfl rfl ?_
      refine wl_v (ov_add (r := ((k + 1 : Nat) : Int)) rfl rfl rfl (by omega)) rfl rfl rfl ?_
      refine wl_v (ov_assign rfl) rfl rfl rfl ?_
      refine wl_nil ?_
      exact fun ac_ w_ hs_ => hR0 (k + 1) A44 c44 ⟨by omega, by rw [del_keepE (by omega) (.inl c31), List.length_append]; exact h44⟩ (by omega) ac_ w_ (hs_.weaken (.cons rfl (.cons rfl (.cons rfl (.cons rfl (.cons rfl (.cons rfl (.nil))))))) (.consE (show blk g7 [.int .i64 (N), .slice A44 (((delE (es.take k) a b).length) + 1) (c44)] 25 = blk g7 [.int .i64 (N), .slice A44 ((delE (es.take (k + 1)) a b).length) (c44)] 25 by rw [del_keepE (by omega) (.inl c31), List.length_append]; rfl) (.head) (.consE (show row 65 2 A44 (((delE (es.take k) a b).length) + 1) (c44) (cells fE ((delE (es.take k) a b) ++ ([((es.getD k (0, 0)).1, (es.getD k (0, 0)).2)]))) = row 65 2 A44 ((delE (es.take (k + 1)) a b).length) (c44) (cells fE (delE (es.take (k + 1)) a b)) by rw [del_keepE (by omega) (.inl c31), List.length_append]; rfl) (.head) (.cons (.tail (.tail .head)) (.cons (.tail (.tail .head)) (.nil))))))
    ·
      refine wl_v (ov_move rfl) rfl rfl rfl ?_
      refine wl_go rfl rfl ?_
      refine wl_v (ov_fieldAddr fI65_1 some_lit rfl) rfl rfl rfl ?_
      refine wl_go rfl rfl ?_
      refine wl_v (ov_load tI3 (holds_blk (List.Mem.head _)) rfl rfl) rfl rfl rfl ?_
      refine wl_go rfl rfl ?_
      refine wl_v (ov_move rfl) rfl rfl rfl ?_
      refine wl_go rfl rfl ?_
      refine wl_v (ov_move rfl) rfl rfl rfl ?_
      refine wl_go rfl rfl ?_
      refine wl_v (ov_max (r := max a b) rfl rfl (by first | omega | (split <;> omega))) rfl rfl rfl ?_
      refine wl_go rfl rfl ?_
      refine wl_if (ov_neq rfl rfl) rfl rfl rfl (fun c38 => ?_) (fun c38 => ?_)
      ·
        refine wl_v (ov_pick_f rfl rfl) rfl rfl rfl ?_
        refine wl_nil ?_
        refine ce_then ?_
        refine cw_true rfl ?_
        refine cw_region ?_
        refine wl_v (ov_fieldAddr fI25_1 some_lit rfl) rfl rfl rfl ?_
        refine wl_v (ov_load tI23 (holds_blk (List.Mem.tail _ (List.Mem.head _))) rfl rfl) rfl rfl rfl ?_
        refine wl_v (ov_loadAgg (vs := [.int .i64 ((es.getD k (0, 0)).1), .int .i64 ((es.getD k (0, 0)).2)]) tI65 (holds_blk (List.Mem.head _)) rfl some_lit rfl rfl) rfl rfl rfl ?_
        refine wl_r (or_buildSlice (e := 65) (size := 2) (is := [0]) (vs := [.agg #[.int .i64 ((es.getD k (0, 0)).1), .int .i64 ((es.getD k (0, 0)).2)]]) (cs := cells fE ([((es.getD k (0, 0)).1, (es.getD k (0, 0)).2)])) rfl rfl rfl (by decide) (fun _ => by kernel_rfl)) rfl rfl (kt1 rfl (fun g43 => ?_))
        refine wl_r (or_append (c2 := 1) sI23 tI65 rfl (by decide) rfl rfl (.tail (.tail (.tail .head))) (holds_row (List.Mem.head _)) (by rw [cells_length fE_len]; try simp) (one_cells fE_one _) cells_append (by omega) (by omega)) rfl rfl (kt2p rfl (fun A44 c44 h44 => ?_))
        refine wl_v (ov_fieldAddr fI25_1 some_lit rfl) rfl rfl rfl ?_
        refine wl_r0 (or_store_blk (vs := [.slice A44 (((delE (es.take k) a b).length) + 1) (c44)]) (cs' := [.int .i64 (N), .slice A44 (((delE (es.take k) a b).length) + 1) (c44)]) (.tail (.tail (.tail .head))) tI23 rfl rfl rfl rfl (Nat.le_of_ble_eq_true rfl) rfl) rfl rfl (kn0 ?_)
        refine wl_nil ?_
        refine ce_block ?_
        refine ce_then ?_
        refine cw_region ?_
        refine wl_v (ov_move rfl) rfl rfl rfl ?_
        refine wl_v (ov_add (r := ((k + 1 : Nat) : Int)) rfl rfl rfl (by omega)) rfl rfl rfl ?_
        refine wl_v (ov_assign rfl) rfl rfl rfl ?_
        refine wl_nil ?_
        exact fun ac_ w_ hs_ => hR0 (k + 1) A44 c44 ⟨by omega, by rw [del_keepE (by omega) (.inr c38), List.length_append]; exact h44⟩ (by omega) ac_ w_ (hs_.weaken (.cons rfl (.cons rfl (.cons rfl (.cons rfl (.cons rfl (.cons rfl (.nil))))))) (.consE (show blk g7 [.int .i64 (N), .slice A44 (((delE (es.take k) a b).length) + 1) (c44)] 25 = blk g7 [.int .i64 (N), .slice A44 ((delE (es.take (k + 1)) a b).length) (c44)] 25 by rw [del_keepE (by omega) (.inr c38), List.length_append]; rfl) (.head) (.consE (show row 65 2 A44 (((delE (es.take k) a b).length) + 1) (c44) (cells fE ((delE (es.take k) a b) ++ ([((es.getD k (0, 0)).1, (es.getD k (0, 0)).2)]))) = row 65 2 A44 ((delE (es.take (k + 1)) a b).length) (c44) (cells fE (delE (es.take (k + 1)) a b)) by rw [del_keepE (by omega) (.inr c38), List.length_append]; rfl) (.head) (.cons (.tail (.tail .head)) (.cons (.tail (.tail .head)) (.nil))))))
      ·
        refine wl_v (ov_pick_f rfl rfl) rfl rfl rfl ?_
        refine wl_nil ?_
        refine ce_then ?_
        refine cw_false rfl ?_
        refine cw_skip ?_
        refine ce_block ?_
        refine ce_then ?_
        refine cw_region ?_
        refine wl_v (ov_move rfl) rfl rfl rfl ?_
        refine wl_v (ov_add (r := ((k + 1 : Nat) : Int)) rfl rfl rfl (by omega)) rfl rfl rfl ?_
        refine wl_v (ov_assign rfl) rfl rfl rfl ?_
        refine wl_nil ?_
        exact fun ac_ w_ hs_ => hR0 (k + 1) A3 c3 ⟨by omega, by rw [del_skipE (by omega) (by omega) (by omega)]; exact hk2⟩ (by omega) ac_ w_ (hs_.weaken (.cons rfl (.cons rfl (.cons rfl (.cons rfl (.cons rfl (.cons rfl (.nil))))))) (.consE (show blk g7 [.int .i64 (N), .slice A3 ((delE (es.take k) a b).length) (c3)] 25 = blk g7 [.int .i64 (N), .slice A3 ((delE (es.take (k + 1)) a b).length) (c3)] 25 by rw [del_skipE (by omega) (by omega) (by omega)]) (.tail .head) (.consE (show row 65 2 A3 ((delE (es.take k) a b).length) (c3) (cells fE (delE (es.take k) a b)) = row 65 2 A3 ((delE (es.take (k + 1)) a b).length) (c3) (cells fE (delE (es.take (k + 1)) a b)) by rw [del_skipE (by omega) (by omega) (by omega)]) (.tail .head) (.cons (.tail .head) (.cons (.tail .head) (.nil))))))
  ·
    refine wl_nil ?_
    refine ce_then ?_
    refine cw_false rfl ?_
    refine cw_exit ?_
    refine ce_then_exit ?_
    refine ce_then_exit ?_
    refine ce_hit ?_
    refine ce_then ?_
    refine cw_seq ?_
    refine cw_region ?_
    refine wl_v (ov_loadAgg (vs := [.int .i64 (N), .slice A3 ((delE (es.take k) a b).length) (c3)]) tI25 (holds_blk (List.Mem.head _)) rfl some_lit rfl rfl) rfl rfl rfl ?_
    refine wl_r0 (or_store_blk (vs := [.int .i64 (N), .slice A3 ((delE (es.take k) a b).length) (c3)]) (cs' := [.int .i64 (N), .slice A3 ((delE (es.take k) a b).length) (c3)]) (.tail (.tail .head)) tI25 rfl rfl rfl rfl (Nat.le_of_ble_eq_true rfl) rfl) rfl rfl (kn0 ?_)
    refine wl_nil ?_
    refine ce_then ?_
    refine cw_ret ?_
    refine ce_results (v := .agg #[.int .i64 (N), .slice A3 ((delE (es.take k) a b).length) (c3)]) (res1 rfl (rv_c rfl tI25 rfl (List.Mem.head _))) (fun w' hw => ?_)
    exact ⟨A3, c3, (by rw [show delE es a b = delE (es.take k) a b from (delE_all (by omega)).symm]; exact hk2), (by rw [show delE es a b = delE (es.take k) a b from (delE_all (by omega)).symm]), ((.consE (show row 65 2 A3 ((delE (es.take k) a b).length) (c3) (cells fE (delE (es.take k) a b)) = row 65 2 A3 ((delE es a b).length) (c3) (cells fE (delE es a b)) by rw [show delE es a b = delE (es.take k) a b from (delE_all (by omega)).symm]) (.tail (.tail .head)) (.nil) : Keep _ _).ss hw).to_new⟩
set_option maxRecDepth 100000 in
theorem deleteE1_c (w : World) (w0 : World) (Bd : Nat) (F : List Ent) (A : Option Addr) (n : Nat) (c : Nat) (cv : Nat) (xs : List (Int × Int)) (i : Nat) (j : Nat) (eA : xs.length = n) (lA : n ≤ cv) (hij : j = i + 1 ∧ j ≤ n) (hs : n ≤ 1000) (hss : SS w0 Bd ((row 65 2 A (n) (c) (cells fE xs)) :: F) w) : Calls Try.prog 53 #[.slice A (n) (cv), .int .i64 (((i : Nat) : Int)), .int .i64 (((j : Nat) : Int))] w (Ret fun rv w' => rv = .slice A (n - 1) (cv) ∧ SS w0 Bd ((row 65 2 A (n) (c) (cells fE (delX xs i))) :: F) w') := by
  subst eA
  obtain ⟨rfl, hj⟩ := hij
  refine fn_enter (args := [.slice A (xs.length) (cv), .int .i64 (((i : Nat) : Int)), .int .i64 ((((i + 1) : Nat) : Int))]) Try.func53 rfl Try.ntmps53 rfl hss ?_
  refine cw_seq ?_
  refine cw_region ?_
  refine wl_v (ov_assign rfl) rfl rfl rfl ?_
  refine wl_nil ?_
  refine ce_then ?_
  refine cw_seq ?_
  refine cw_region ?_
  refine wl_v (ov_move rfl) rfl rfl rfl ?_
  refine wl_v (ov_move rfl) rfl rfl rfl ?_
  refine wl_v (ov_move rfl) rfl rfl rfl ?_
  refine wl_v (ov_move rfl) rfl rfl rfl ?_
  refine wl_v (ov_len (sliceI_spec sI23) rfl) rfl rfl rfl ?_
  refine wl_v (ov_slice_lhm (l := i) (h := (i + 1)) (mx := xs.length) sI23 tI65 rfl rfl rfl rfl (by omega) (by omega) lA) rfl rfl rfl ?_
  refine wl_nil ?_
  refine ce_then ?_
  refine cw_seq ?_
  refine cw_seq ?_
  refine cw_region ?_
  refine wl_v (ov_move rfl) rfl rfl rfl ?_
  refine wl_v (ov_move rfl) rfl rfl rfl ?_
  refine wl_if (ov_eql rfl rfl) rfl rfl rfl (fun c16 => ?_) (fun c16 => ?_)
  ·
    exfalso; omega
  ·
    refine wl_nil ?_
    refine ce_then ?_
    refine cw_false rfl ?_
    refine cw_skip ?_
    refine ce_then ?_
    refine cw_seq ?_
    refine cw_region ?_
    refine wl_v (ov_move rfl) rfl rfl rfl ?_
    refine wl_v (ov_len (sliceI_spec sI23) rfl) rfl rfl rfl ?_
    refine wl_v (ov_assign rfl) rfl rfl rfl ?_
    refine wl_nil ?_
    refine ce_then ?_
    refine cw_seq ?_
    refine cw_draw mixO [6] (.cons (.head) (.refl)) rfl ?_
    refine wg_takep (i := 0) rfl (ov_move rfl) rfl rfl rfl (by kernel_rfl) (by kernel_rfl) (by kernel_rfl) rfl ?_
    refine wg_takep (i := 1) rfl (ov_move rfl) rfl rfl rfl (by kernel_rfl) (by kernel_rfl) (by kernel_rfl) rfl ?_
    refine wg_takep (i := 2) rfl (ov_slice_h (h := i) sI23 tI65 rfl rfl (by omega)) rfl rfl rfl (by kernel_rfl) (by kernel_rfl) (by kernel_rfl) rfl ?_
    refine wg_takep (i := 3) rfl (ov_move rfl) rfl rfl rfl (by kernel_rfl) (by kernel_rfl) (by kernel_rfl) rfl ?_
    refine wg_takep (i := 4) rfl (ov_move rfl) rfl rfl rfl (by kernel_rfl) (by kernel_rfl) (by kernel_rfl) rfl ?_
    refine wg_takep (i := 5) rfl (ov_slice_l (l := (i + 1)) sI23 tI65 rfl rfl (by omega)) rfl rfl rfl (by kernel_rfl) (by kernel_rfl) (by kernel_rfl) rfl ?_
    refine wg_one (i := 6) (by kernel_rfl) ?_
    refine stg_some (some_holds (q := 0) (holds_row (e := 65) (size := 2) (m := xs.length) (c := c) (cs := cells fE xs) (List.Mem.head _)) (by rw [cells_length fE_len]; omega)) (fun hso => ?_)
    refine go_late rfl rfl rfl rfl (or_append_self (n := xs.length) (c0 := c) (c2 := cv - (i + 1)) sI23 tI65 rfl rfl (.head) (holds_dropC (l := (i + 1)) fE_len (holds_row (List.Mem.head _)) (by first | exact lA | omega)) (by rw [cells_length fE_len]; simp) (one_cells fE_one _) hso (by omega) (by omega) ((cells_splices fE_len _ _ _).trans (congrArg (cells fE) (by simp only [List.length_drop]; rw [show i + (xs.length - (i + 1)) = xs.length - 1 from by omega])))) (kt0 rfl ?_)
    refine wa_r (i := 7) (by kernel_rfl) rfl rfl rfl (OpV.opR (ov_assign rfl)) (kt0 rfl ?_)
    refine wa_done (by kernel_rfl) ?_
    refine ce_then ?_
    refine cw_seq ?_
    refine cw_region ?_
    refine wl_v (ov_move rfl) rfl rfl rfl ?_
    refine wl_v (ov_move rfl) rfl rfl rfl ?_
    refine wl_v (ov_len (sliceI_spec sI23) rfl) rfl rfl rfl ?_
    refine wl_v (ov_move rfl) rfl rfl rfl ?_
    refine wl_v (ov_slice_lh (l := i + (xs.length - (i + 1))) (h := xs.length) sI23 tI65 rfl rfl rfl (by omega) (by omega)) rfl rfl rfl ?_
    refine wl_r0 (or_clear (f := fE) (z0 := (0, 0)) (i := i + (xs.length - (i + 1))) (k := xs.length - (i + (xs.length - (i + 1)))) (c := cv) sI23 tI65 rfl fE_len fE_one rfl (.head) (by omega) (by omega) hso ((cells_splices fE_len _ _ _).trans (congrArg (cells fE) (show _ = delX xs i from (clear_lastX (by omega) (by omega) (by omega)))))) rfl rfl (kn0 ?_)
    refine wl_nil ?_
    refine ce_then ?_
    refine cw_seq ?_
    refine cw_region ?_
    refine wl_v (ov_move rfl) rfl rfl rfl ?_
    refine wl_v (ov_assign rfl) rfl rfl rfl ?_
    refine wl_nil ?_
    refine ce_then ?_
    refine cw_ret ?_
    refine ce_results (v := .slice A (i + (xs.length - (i + 1))) (cv)) (res1 rfl (rv_t rfl)) (fun w' hw => ?_)
    exact ⟨(by rw [show i + (xs.length - (i + 1)) = xs.length - 1 from by omega]), ((.cons (.head) (.refl) : Keep _ _).ss hw)⟩
set_option maxRecDepth 100000 in
theorem tree1_c (w : World) (u : Int) (v : Int) (g1 : Nat) (l : Int) (hg1 : At w (some ⟨g1, 0, none⟩) [.int .i64 (l)]) : Calls Try.prog 52 #[.agg #[.int .i64 (u), .int .i64 (v)], elp (some ⟨g1, 0, none⟩) (0)] w (Ret fun rv w' => rv = .bool (touchV l (u, v)) ∧ New w w' []) := by
  have og1 := hg1.atB
  refine fn_enter (args := [.agg #[.int .i64 (u), .int .i64 (v)], elp (some ⟨g1, 0, none⟩) (0)]) Try.func52 rfl Try.ntmps52 rfl (SS.start w) ?_
  refine cw_seq ?_
  refine cw_region ?_
  refine wl_r (or_box rfl rfl) rfl rfl (kt1 rfl (fun g2 => ?_))
  refine wl_v (ov_assign rfl) rfl rfl rfl ?_
  refine wl_nil ?_
  refine ce_then ?_
  refine cw_seq ?_
  refine cw_region ?_
  refine wl_v (ov_fieldAddr fI65_0 some_lit rfl) rfl rfl rfl ?_
  refine wl_v (ov_load tI3 (holds_blk (List.Mem.head _)) rfl rfl) rfl rfl rfl ?_
  refine wl_v (ov_load tI3 (holds_old og1) rfl rfl) rfl rfl rfl ?_
  refine wl_if (ov_eql rfl rfl) rfl rfl rfl (fun c7 => ?_) (fun c7 => ?_)
  ·
    refine wl_v (ov_move rfl) rfl rfl rfl ?_
    refine wl_not rfl rfl rfl rfl rfl rfl ?_
    refine wl_not rfl rfl rfl rfl rfl rfl ?_
    refine wl_not rfl rfl rfl rfl rfl rfl ?_
    refine wl_not rfl rfl rfl rfl rfl rfl ?_
    refine wl_v (ov_pick_t rfl rfl) rfl rfl rfl ?_
    refine wl_v (ov_assign rfl) rfl rfl rfl ?_
    refine wl_nil ?_
    refine ce_then ?_
    refine cw_ret ?_
    refine ce_results (v := .bool true) (res1 rfl (rv_t rfl)) (fun w' hw => ?_)
    exact ⟨(by unfold touchV; rw [decide_eq_true c7]; rfl), (Keep.nil.ss hw).to_new⟩
  ·
    refine wl_v (ov_move rfl) rfl rfl rfl ?_
    refine wl_go rfl rfl ?_
    refine wl_v (ov_fieldAddr fI65_1 some_lit rfl) rfl rfl rfl ?_
    refine wl_go rfl rfl ?_
    refine wl_v (ov_load tI3 (holds_blk (List.Mem.head _)) rfl rfl) rfl rfl rfl ?_
    refine wl_go rfl rfl ?_
    refine wl_v (ov_load tI3 (holds_old og1) rfl rfl) rfl rfl rfl ?_
    refine wl_go rfl rfl ?_
    refine wl_if (ov_eql rfl rfl) rfl rfl rfl (fun c12 => ?_) (fun c12 => ?_)
    ·
      refine wl_v (ov_pick_f rfl rfl) rfl rfl rfl ?_
      refine wl_v (ov_assign rfl) rfl rfl rfl ?_
      refine wl_nil ?_
      refine ce_then ?_
      refine cw_ret ?_
      refine ce_results (v := .bool true) (res1 rfl (rv_t rfl)) (fun w' hw => ?_)
      exact ⟨(by unfold touchV; rw [decide_eq_true c12]; rw [Bool.or_true]), (Keep.nil.ss hw).to_new⟩
    ·
      refine wl_v (ov_pick_f rfl rfl) rfl rfl rfl ?_
      refine wl_v (ov_assign rfl) rfl rfl rfl ?_
      refine wl_nil ?_
      refine ce_then ?_
      refine cw_ret ?_
      refine ce_results (v := .bool false) (res1 rfl (rv_t rfl)) (fun w' hw => ?_)
      exact ⟨(by unfold touchV; rw [decide_eq_false c7, decide_eq_false c12]; rfl), (Keep.nil.ss hw).to_new⟩
set_option maxRecDepth 100000 in
theorem isConn_c (w : World) (N : Int) (A : Option Addr) (n : Nat) (c : Nat) (es : List (Int × Int)) (hA : At w A (cells fE es)) (eA : es.length = n) (lA : n ≤ c) (hs : es.length ≤ 1048576) (hN : N ≤ 9223372036854775807) : Calls Try.prog 48 #[.agg #[.int .i64 (N), .slice A (n) (c)]] w (Ret fun rv w' => rv = .bool (decide (ValidG N es ∧ (compsL N.toNat es).length = 1)) ∧ New w w' []) := by
  have oA := hA.atB
  subst eA
  refine fn_enter (args := [.agg #[.int .i64 (N), .slice A (es.length) (c)]]) Try.func48 rfl Try.ntmps48 rfl (SS.start w) ?_
  refine cw_seq ?_
  refine cw_region ?_
  refine wl_r (or_box rfl rfl) rfl rfl (kt1 rfl (fun g1 => ?_))
  refine wl_v (ov_assign rfl) rfl rfl rfl ?_
  refine wl_nil ?_
  refine ce_then ?_
  refine cw_seq ?_
  refine cw_region ?_
  refine wl_v (ov_loadAgg (vs := [.int .i64 (N), .slice A (es.length) (c)]) tI25 (holds_blk (List.Mem.head _)) rfl some_lit rfl rfl) rfl rfl rfl ?_
  refine wl_r (or_call (fv := []) (vs := [.agg #[.int .i64 (N), .slice A (es.length) (c)]]) (cs := []) en12 rfl rfl (call_v (fun w hw => validGraphI_c w N A es.length c es ((holds_old oA) w hw) rfl lA (by first | assumption | omega | (simp; omega)) (by first | assumption | omega | (simp; omega))))) rfl rfl (kt_if rfl (fun c4 => ?_) (fun c4 => ?_))
  ·
    refine wl_v (ov_move rfl) rfl rfl rfl ?_
    obtain ⟨m, rfl⟩ := Int.eq_ofNat_of_zero_le (show 0 ≤ N from c4.2.1)
    have hg : Gr m es := by have h9 := c4.gr; rwa [Int.toNat_natCast] at h9
    have hm : m ≤ 7 := by have h9 := c4.2.2; omega
    refine wl_go rfl rfl ?_
    refine wl_v (ov_loadAgg (vs := [.int .i64 (((m : Nat) : Int)), .slice A (es.length) (c)]) tI25 (holds_blk (List.Mem.head _)) rfl some_lit rfl rfl) rfl rfl rfl ?_
    refine wl_go rfl rfl ?_
    refine wl_r (or_call (fv := []) (vs := [.agg #[.int .i64 (((m : Nat) : Int)), .slice A (es.length) (c)]]) (cs := []) en90 rfl rfl (call_x4 (fun w hw => componentsI_c w m A es.length c es ((holds_old oA) w hw) rfl lA (by first | assumption | omega | (simp; omega)) (by first | assumption | omega | (simp; omega))))) rfl rfl (kt4p rfl (fun A2_7 c2_7 k2_7 hs_7 h_7 => ?_))
    refine wl_go rfl rfl ?_
    refine wl_v (ov_len (sliceI_spec sI106) rfl) rfl rfl rfl ?_
    refine wl_go rfl rfl ?_
    refine wl_if (ov_eql rfl rfl) rfl rfl rfl (fun c9 => ?_) (fun c9 => ?_)
    ·
      refine wl_v (ov_pick_t rfl rfl) rfl rfl rfl ?_
      refine wl_v (ov_assign rfl) rfl rfl rfl ?_
      refine wl_nil ?_
      refine ce_then ?_
      refine cw_ret ?_
      refine ce_results (v := .bool true) (res1 rfl (rv_t rfl)) (fun w' hw => ?_)
      exact ⟨(bt ⟨c4, by rw [Int.toNat_natCast]; omega⟩), (Keep.nil.ss hw).to_new⟩
    ·
      refine wl_v (ov_pick_t rfl rfl) rfl rfl rfl ?_
      refine wl_v (ov_assign rfl) rfl rfl rfl ?_
      refine wl_nil ?_
      refine ce_then ?_
      refine cw_ret ?_
      refine ce_results (v := .bool false) (res1 rfl (rv_t rfl)) (fun w' hw => ?_)
      exact ⟨(bf (fun h => c9 (by have := h.2; rw [Int.toNat_natCast] at this; omega))), (Keep.nil.ss hw).to_new⟩
  ·
    refine wl_v (ov_move rfl) rfl rfl rfl ?_
    refine wl_not rfl rfl rfl rfl rfl rfl ?_
    refine wl_not rfl rfl rfl rfl rfl rfl ?_
    refine wl_not rfl rfl rfl rfl rfl rfl ?_
    refine wl_not rfl rfl rfl rfl rfl rfl ?_
    refine wl_v (ov_pick_f rfl rfl) rfl rfl rfl ?_
    refine wl_v (ov_assign rfl) rfl rfl rfl ?_
    refine wl_nil ?_
    refine ce_then ?_
    refine cw_ret ?_
    refine ce_results (v := .bool false) (res1 rfl (rv_t rfl)) (fun w' hw => ?_)
    exact ⟨(bf (fun h => c4 h.1)), (Keep.nil.ss hw).to_new⟩
set_option maxRecDepth 100000 in
theorem isTreeG_c (w : World) (m : Nat) (A : Option Addr) (n : Nat) (c : Nat) (es : List (Int × Int)) (hA : At w A (cells fE es)) (eA : es.length = n) (lA : n ≤ c) (hg : Gr m es) (hm : m ≤ 7) : Calls Try.prog 45 #[.agg #[.int .i64 (((m : Nat) : Int)), .slice A (n) (c)]] w (Ret fun rv w' => rv = .bool (decide ((es.length : Int) = (m : Int) - 1 ∧ (compsL m es).length = 1)) ∧ New w w' []) := by
  have oA := hA.atB
  subst eA
  refine fn_enter (args := [.agg #[.int .i64 (((m : Nat) : Int)), .slice A (es.length) (c)]]) Try.func45 rfl Try.ntmps45 rfl (SS.start w) ?_
  refine cw_seq ?_
  refine cw_region ?_
  refine wl_r (or_box rfl rfl) rfl rfl (kt1 rfl (fun g1 => ?_))
  refine wl_v (ov_assign rfl) rfl rfl rfl ?_
  refine wl_nil ?_
  refine ce_then ?_
  refine cw_seq ?_
  refine cw_region ?_
  refine wl_v (ov_fieldAddr fI25_1 some_lit rfl) rfl rfl rfl ?_
  refine wl_v (ov_load tI23 (holds_blk (List.Mem.head _)) rfl rfl) rfl rfl rfl ?_
  refine wl_v (ov_len (sliceI_spec sI23) rfl) rfl rfl rfl ?_
  refine wl_v (ov_fieldAddr fI25_0 some_lit rfl) rfl rfl rfl ?_
  refine wl_v (ov_load tI3 (holds_blk (List.Mem.head _)) rfl rfl) rfl rfl rfl ?_
  refine wl_v (ov_sub (r := ((m : Nat) : Int) - 1) rfl rfl rfl (by omega)) rfl rfl rfl ?_
  refine wl_if (ov_eql rfl rfl) rfl rfl rfl (fun c9 => ?_) (fun c9 => ?_)
  ·
    refine wl_v (ov_move rfl) rfl rfl rfl ?_
    refine wl_go rfl rfl ?_
    refine wl_v (ov_loadAgg (vs := [.int .i64 (((m : Nat) : Int)), .slice A (es.length) (c)]) tI25 (holds_blk (List.Mem.head _)) rfl some_lit rfl rfl) rfl rfl rfl ?_
    refine wl_go rfl rfl ?_
    refine wl_r (or_call (fv := []) (vs := [.agg #[.int .i64 (((m : Nat) : Int)), .slice A (es.length) (c)]]) (cs := []) en85 rfl rfl (call_x4 (fun w hw => componentsS_c w m A es.length c es ((holds_old oA) w hw) rfl lA (by first | assumption | omega | (simp; omega)) (by first | assumption | omega | (simp; omega))))) rfl rfl (kt4p rfl (fun A2_12 c2_12 k2_12 hs_12 h_12 => ?_))
    refine wl_go rfl rfl ?_
    refine wl_v (ov_len (sliceI_spec sI106) rfl) rfl rfl rfl ?_
    refine wl_go rfl rfl ?_
    refine wl_if (ov_eql rfl rfl) rfl rfl rfl (fun c14 => ?_) (fun c14 => ?_)
    ·
      refine wl_v (ov_pick_t rfl rfl) rfl rfl rfl ?_
      refine wl_v (ov_assign rfl) rfl rfl rfl ?_
      refine wl_nil ?_
      refine ce_then ?_
      refine cw_ret ?_
      refine ce_results (v := .bool true) (res1 rfl (rv_t rfl)) (fun w' hw => ?_)
      exact ⟨(bt ⟨by omega, by omega⟩), (Keep.nil.ss hw).to_new⟩
    ·
      refine wl_v (ov_pick_t rfl rfl) rfl rfl rfl ?_
      refine wl_v (ov_assign rfl) rfl rfl rfl ?_
      refine wl_nil ?_
      refine ce_then ?_
      refine cw_ret ?_
      refine ce_results (v := .bool false) (res1 rfl (rv_t rfl)) (fun w' hw => ?_)
      exact ⟨(bf (fun h => c14 (by omega))), (Keep.nil.ss hw).to_new⟩
  ·
    refine wl_v (ov_move rfl) rfl rfl rfl ?_
    refine wl_not rfl rfl rfl rfl rfl rfl ?_
    refine wl_not rfl rfl rfl rfl rfl rfl ?_
    refine wl_not rfl rfl rfl rfl rfl rfl ?_
    refine wl_not rfl rfl rfl rfl rfl rfl ?_
    refine wl_v (ov_pick_f rfl rfl) rfl rfl rfl ?_
    refine wl_v (ov_assign rfl) rfl rfl rfl ?_
    refine wl_nil ?_
    refine ce_then ?_
    refine cw_ret ?_
    refine ce_results (v := .bool false) (res1 rfl (rv_t rfl)) (fun w' hw => ?_)
    exact ⟨(bf (fun h => c9 (by omega))), (Keep.nil.ss hw).to_new⟩
set_option maxRecDepth 100000 in
theorem treeCodeS_c (w : World) (m : Nat) (A : Option Addr) (n : Nat) (c : Nat) (es : List (Int × Int)) (hA : At w A (cells fE es)) (eA : es.length = n) (lA : n ≤ c) (hg : Gr m es) (hm : m ≤ 7) (h2 : 2 ≤ m) (hl : es.length + 1 = m) (hL : Leafy m es) : Calls Try.prog 46 #[.agg #[.int .i64 (((m : Nat) : Int)), .slice A (n) (c)]] w (Ret fun rv w' => ∃ A2 c2, (m - 2 ≤ c2) ∧ rv = .slice A2 (m - 2) (c2) ∧ New w w' [row 3 1 A2 (m - 2) (c2) (cells fI (tcOut m es (m - 2)))]) := by
  have oA := hA.atB
  subst eA
  have hel := hg.len (by omega)
  refine fn_enter (args := [.agg #[.int .i64 (((m : Nat) : Int)), .slice A (es.length) (c)]]) Try.func46 rfl Try.ntmps46 rfl (SS.start w) ?_
  refine cw_seq ?_
  refine cw_region ?_
  refine wl_r (or_box rfl rfl) rfl rfl (kt1 rfl (fun g1 => ?_))
  refine wl_v (ov_assign rfl) rfl rfl rfl ?_
  refine wl_nil ?_
  refine ce_then ?_
  refine cw_seq ?_
  refine cw_region ?_
  refine wl_r (or_buildSlice (e := 3) (size := 1) (is := []) (vs := []) (cs := cells fI ([])) rfl rfl rfl (by decide) (fun _ => by kernel_rfl)) rfl rfl (kt1 rfl (fun g9 => ?_))
  refine wl_v (ov_assign rfl) rfl rfl rfl ?_
  refine wl_nil ?_
  refine ce_then ?_
  refine cw_seq ?_
  refine cw_region ?_
  refine wl_v (ov_loadAgg (vs := [.int .i64 (((m : Nat) : Int)), .slice A (es.length) (c)]) tI25 (holds_blk (List.Mem.tail _ (List.Mem.head _))) rfl some_lit rfl rfl) rfl rfl rfl ?_
  refine wl_r (or_alloc tI25 rfl) rfl rfl (kt1 rfl (fun g4 => ?_))
  refine wl_r0 (or_store_blk (vs := [.int .i64 (((m : Nat) : Int)), .slice A (es.length) (c)]) (cs' := [.int .i64 (((m : Nat) : Int)), .slice A (es.length) (c)]) (.head) tI25 rfl rfl rfl rfl (Nat.le_of_ble_eq_true rfl) rfl) rfl rfl (kn0 ?_)
  refine wl_nil ?_
  refine ce_then ?_
  refine cw_seq ?_
  refine ct_none fE 65 2 ?_
  refine cw_region ?_
  refine wl_r (or_buildSlice (e := 3) (size := 1) (is := []) (vs := []) (cs := cells fI ([])) rfl rfl rfl (by decide) (fun _ => by kernel_rfl)) rfl rfl (kt1 rfl (fun g11 => ?_))
  refine wl_v (ov_assign rfl) rfl rfl rfl ?_
  refine wl_nil ?_
  refine ce_then ?_
  refine cw_seq ?_
  refine cw_block ?_
  refine cw_loop11 (fun (k : Nat) (A3 : Option Addr) (c3 : Nat) (A5 : Option Addr) (c5 : Nat) (A4 : Option Addr) (c4 : Nat) (R : Option Addr) (nR : Nat) (cR : Nat) (ys : List Ed) => [(1, elp (some ⟨g1, 0, none⟩) (0)), (2, .slice none (0) (0)), (4, elp (some ⟨g4, 0, none⟩) (0)), (3, .slice A3 (k) (c3)), (5, .slice A5 (k) (c5))]) (fun (k : Nat) (A3 : Option Addr) (c3 : Nat) (A5 : Option Addr) (c5 : Nat) (A4 : Option Addr) (c4 : Nat) (R : Option Addr) (nR : Nat) (cR : Nat) (ys : List Ed) => [row 3 1 A5 (k) (c5) (cells fI (tcGone m es k)), row 65 2 R (nR) (cR) (cells fE ys), blk g4 [.int .i64 (((m : Nat) : Int)), .slice A4 ((tcTo m es k).length) (c4)] 25, row 3 1 A3 (k) (c3) (cells fI (tcOut m es k)), blk g1 [.int .i64 (((m : Nat) : Int)), .slice A (es.length) (c)] 25]) (fun (k : Nat) (A3 : Option Addr) (c3 : Nat) (A5 : Option Addr) (c5 : Nat) (A4 : Option Addr) (c4 : Nat) (R : Option Addr) (nR : Nat) (cR : Nat) (ys : List Ed) => k ≤ m - 2 ∧ k ≤ c3 ∧ k ≤ c5 ∧ (tcTo m es k).length ≤ c4 ∧ ((A4 = R ∧ cells fE (tcTo m es k) = cells fE ys) ∨ AtB w w.heap.size A4 (cells fE (tcTo m es k)))) (fun (k : Nat) (A3 : Option Addr) (c3 : Nat) (A5 : Option Addr) (c5 : Nat) (A4 : Option Addr) (c4 : Nat) (R : Option Addr) (nR : Nat) (cR : Nat) (ys : List Ed) => m - k) 0 (some ⟨g9, 0, none⟩) 0 (some ⟨g11, 0, none⟩) 0 A c none 0 0 ([]) ⟨by omega, by omega, by omega, lA, .inr oA⟩ (.cons rfl (.cons rfl (.cons rfl (.cons rfl (.cons rfl (.nil)))))) (.consE (show row 3 1 (some ⟨g11, 0, none⟩) (0) (0) (cells fI ([])) = row 3 1 (some ⟨g11, 0, none⟩) (0) (0) (cells fI (tcGone m es 0)) by rfl) (.head) (.consE (show row 65 2 none (0) (0) (cells fE ([])) = row 65 2 none (0) (0) (cells fE ([])) by rfl) (.head) (.consE (show blk g4 [.int .i64 (((m : Nat) : Int)), .slice A (es.length) (c)] 25 = blk g4 [.int .i64 (((m : Nat) : Int)), .slice A ((tcTo m es 0).length) (c)] 25 by rfl) (.head) (.consE (show row 3 1 (some ⟨g9, 0, none⟩) (0) (0) (cells fI ([])) = row 3 1 (some ⟨g9, 0, none⟩) (0) (0) (cells fI (tcOut m es 0)) by rfl) (.head) (.cons (.head) (.nil)))))) ?_
  intro R0 k A3 c3 A5 c5 A4 c4 R nR cR ys hk hR0
  obtain ⟨hk1, hk2, hk3, hk4, hk5⟩ := hk
  have hsq := seq_ok hg hL k (by omega)
  have hql := hsq.len
  have hgl := tcGone_length m es k
  have hol := tcOut_length m es k
  refine cw_seq ?_
  refine cw_seq ?_
  refine cw_region ?_
  refine wl_v (ov_move rfl) rfl rfl rfl ?_
  refine wl_v (ov_len (sliceI_spec sI38) rfl) rfl rfl rfl ?_
  refine wl_v (ov_fieldAddr fI25_0 some_lit rfl) rfl rfl rfl ?_
  refine wl_v (ov_load tI3 (holds_blk (List.Mem.tail _ (List.Mem.tail _ (List.Mem.tail _ (List.Mem.tail _ (List.Mem.head _)))))) rfl rfl) rfl rfl rfl ?_
  refine wl_v (ov_sub (r := ((m : Nat) : Int) - 2) rfl rfl rfl (by omega)) rfl rfl rfl ?_
  refine wl_if (ov_lss rfl rfl) rfl rfl rfl (fun c17 => ?_) (fun c17 => ?_)
  ·
    obtain ⟨v0, p0, u0, hst⟩ := seq_step hL hsq (by omega)
    have hvl := hst.lt
    have hnr := hst.nbr
    refine wl_nil ?_
    refine ce_then ?_
    refine cw_true rfl ?_
    refine cw_skip ?_
    refine ce_then ?_
    refine cw_block ?_
    refine cw_seq ?_
    refine cw_region ?_
    refine wl_v (ov_loadAgg (vs := [.int .i64 (((m : Nat) : Int)), .slice A4 ((tcTo m es k).length) (c4)]) tI25 (holds_blk (List.Mem.tail _ (List.Mem.tail _ (List.Mem.head _)))) rfl some_lit rfl rfl) rfl rfl rfl ?_
    refine wl_r (or_call (fv := []) (vs := [.agg #[.int .i64 (((m : Nat) : Int)), .slice A4 ((tcTo m es k).length) (c4)]]) (cs := []) en83 rfl rfl (call_x1 (fun w hw => degreesS_c w m A4 ((tcTo m es k).length) c4 (tcTo m es k) ((holds_or (List.Mem.tail _ (List.Mem.head _)) hk5) w hw) rfl hk4 (by omega) (by first | assumption | omega | (simp; omega)) hsq.gr.inr))) rfl rfl (kt1p rfl (fun g_19 h_19 => ?_))
    refine wl_v (ov_assign rfl) rfl rfl rfl ?_
    refine wl_nil ?_
    refine ce_then ?_
    refine cw_seq ?_
    refine cw_region ?_
    refine wl_v (ov_assign rfl) rfl rfl rfl ?_
    refine wl_nil ?_
    refine ce_then ?_
    refine cw_block ?_
    refine cw_loop1 (fun (q : Nat) => [(1, elp (some ⟨g1, 0, none⟩) (0)), (2, .slice none (0) (0)), (4, elp (some ⟨g4, 0, none⟩) (0)), (6, .slice (some ⟨g_19, 0, none⟩) (m) (m)), (3, .slice A3 (k) (c3)), (5, .slice A5 (k) (c5)), (7, .int .i64 (((q : Nat) : Int)))]) (fun (q : Nat) => [row 3 1 (some ⟨g_19, 0, none⟩) (m) (m) (cells fI (degs m (tcTo m es k))), row 3 1 A5 (k) (c5) (cells fI (tcGone m es k)), row 65 2 R (nR) (cR) (cells fE ys), blk g4 [.int .i64 (((m : Nat) : Int)), .slice A4 ((tcTo m es k).length) (c4)] 25, row 3 1 A3 (k) (c3) (cells fI (tcOut m es k)), blk g1 [.int .i64 (((m : Nat) : Int)), .slice A (es.length) (c)] 25]) (fun (q : Nat) => q ≤ v0) (fun (q : Nat) => m - q) 0 (by omega) (.cons rfl (.cons rfl (.cons rfl (.cons rfl (.cons rfl (.cons rfl (.cons (congrArg (fun z => some (Value.int .i64 z)) (show 0 = ((0 : Nat) : Int) by first | omega | rfl | (simp; done))) (.nil)))))))) (.cons (.head) (.cons (.head) (.cons (.head) (.cons (.head) (.cons (.head) (.cons (.head) (.nil))))))) ?_
    intro R1 q hk1 hR1
    refine cw_seq ?_
    refine cw_seq ?_
    refine cw_region ?_
    refine wl_v (ov_move rfl) rfl rfl rfl ?_
    refine wl_v (ov_fieldAddr fI25_0 some_lit rfl) rfl rfl rfl ?_
    refine wl_v (ov_load tI3 (holds_blk (List.Mem.tail _ (List.Mem.tail _ (List.Mem.tail _ (List.Mem.tail _ (List.Mem.tail _ (List.Mem.head _))))))) rfl rfl) rfl rfl rfl ?_
    refine wl_if (ov_lss rfl rfl) rfl rfl rfl (fun c23 => ?_) (fun c23 => ?_)
    ·
      refine wl_nil ?_
      refine ce_then ?_
      refine cw_true rfl ?_
      refine cw_skip ?_
      refine ce_then ?_
      refine cw_seq ?_
      refine cw_block ?_
      refine cw_seq ?_
      refine cw_region ?_
      refine wl_v (ov_move rfl) rfl rfl rfl ?_
      refine wl_v (ov_move rfl) rfl rfl rfl ?_
      refine wl_v (ov_index (k := q) (c := m) sI38 tI3 rfl rfl (some_holds (q := q * 1) (holds_row (List.Mem.head _)) (by rw [cells_length fI_len]; have hlt : q < (degs m (tcTo m es k)).length := (by first | omega | (rw [degs_length]; omega)); omega)) (show q < m from (by first | omega | (rw [degs_length]; omega)))) rfl rfl rfl ?_
      refine wl_v (ov_load tI3 (holds_row (List.Mem.head _)) rfl (get_fI (show q < (degs m (tcTo m es k)).length from (by first | omega | (rw [degs_length]; omega))))) rfl rfl rfl ?_
      refine wl_if (ov_eql rfl rfl) rfl rfl rfl (fun c30 => ?_) (fun c30 => ?_)
      ·
        refine wl_v (ov_move rfl) rfl rfl rfl ?_
        refine wl_go rfl rfl ?_
        refine wl_v (ov_move rfl) rfl rfl rfl ?_
        refine wl_go rfl rfl ?_
        refine wl_v (ov_move rfl) rfl rfl rfl ?_
        refine wl_go rfl rfl ?_
        refine wl_r (or_call (fv := []) (vs := [.slice A5 (k) (c5), .int .i64 (((q : Nat) : Int))]) (cs := []) en86 rfl rfl (call_v (fun w hw => hasInt_c w A5 k c5 (tcGone m es k) ((q : Nat) : Int) ((holds_row (List.Mem.tail _ (List.Mem.head _))) w hw) (by omega) hk3 (by omega)))) rfl rfl (kt_if rfl (fun c34 => ?_) (fun c34 => ?_))
        ·
          refine wl_go rfl rfl ?_
          refine wl_v (ov_not rfl) rfl rfl rfl ?_
          refine wl_v (ov_pick_t rfl rfl) rfl rfl rfl ?_
          refine wl_nil ?_
          refine ce_then ?_
          refine cw_false rfl ?_
          refine cw_skip ?_
          refine ce_block ?_
          refine ce_then ?_
          refine cw_region ?_
          refine wl_v (ov_move rfl) rfl rfl rfl ?_
          refine wl_v (ov_add (r := ((q + 1 : Nat) : Int)) rfl rfl rfl (by omega)) rfl rfl rfl ?_
          refine wl_v (ov_assign rfl) rfl rfl rfl ?_
          refine wl_nil ?_
          exact fun ac_ w_ hs_ => hR1 (q + 1) (by have h9 : q ≠ v0 := fun e => leaf_new hsq hst (by rw [← e]; exact c34); omega) (by omega) ac_ w_ (hs_.weaken (.cons rfl (.cons rfl (.cons rfl (.cons rfl (.cons rfl (.cons rfl (.cons rfl (.nil)))))))) (.cons (.head) (.cons (.head) (.cons (.head) (.cons (.head) (.cons (.head) (.cons (.head) (.nil))))))))
        ·
          have hqv : q = v0 := degs_leaf hsq.gr hst (by omega) c30
          refine wl_go rfl rfl ?_
          refine wl_v (ov_not rfl) rfl rfl rfl ?_
          refine wl_v (ov_pick_t rfl rfl) rfl rfl rfl ?_
          refine wl_nil ?_
          refine ce_then ?_
          refine cw_true rfl ?_
          refine cw_seq ?_
          refine cw_seq ?_
          refine cw_region ?_
          refine wl_v (ov_assign rfl) rfl rfl rfl ?_
          refine wl_nil ?_
          refine ce_then ?_
          refine cw_block ?_
          refine cw_loop1 (fun (r : Nat) => [(1, elp (some ⟨g1, 0, none⟩) (0)), (2, .slice none (0) (0)), (4, elp (some ⟨g4, 0, none⟩) (0)), (5, .slice A5 (k) (c5)), (6, .slice (some ⟨g_19, 0, none⟩) (m) (m)), (7, .int .i64 (((q : Nat) : Int))), (3, .slice A3 (k) (c3)), (8, .int .i64 (((r : Nat) : Int)))]) (fun (r : Nat) => [row 3 1 (some ⟨g_19, 0, none⟩) (m) (m) (cells fI (degs m (tcTo m es k))), row 3 1 A5 (k) (c5) (cells fI (tcGone m es k)), row 65 2 R (nR) (cR) (cells fE ys), blk g4 [.int .i64 (((m : Nat) : Int)), .slice A4 ((tcTo m es k).length) (c4)] 25, row 3 1 A3 (k) (c3) (cells fI (tcOut m es k)), blk g1 [.int .i64 (((m : Nat) : Int)), .slice A (es.length) (c)] 25]) (fun (r : Nat) => ((r : Nat) : Int) ≤ u0) (fun (r : Nat) => m - r) 0 (by omega) (.cons rfl (.cons rfl (.cons rfl (.cons rfl (.cons rfl (.cons rfl (.cons rfl (.cons (congrArg (fun z => some (Value.int .i64 z)) (show 0 = ((0 : Nat) : Int) by first | omega | rfl | (simp; done))) (.nil))))))))) (.cons (.head) (.cons (.head) (.cons (.head) (.cons (.head) (.cons (.head) (.cons (.head) (.nil))))))) ?_
          intro R2 r hk2 hR2
          refine cw_seq ?_
          refine cw_seq ?_
          refine cw_region ?_
          refine wl_v (ov_move rfl) rfl rfl rfl ?_
          refine wl_v (ov_fieldAddr fI25_0 some_lit rfl) rfl rfl rfl ?_
          refine wl_v (ov_load tI3 (holds_blk (List.Mem.tail _ (List.Mem.tail _ (List.Mem.tail _ (List.Mem.tail _ (List.Mem.tail _ (List.Mem.head _))))))) rfl rfl) rfl rfl rfl ?_
          refine wl_if (ov_lss rfl rfl) rfl rfl rfl (fun c40 => ?_) (fun c40 => ?_)
          ·
            refine wl_nil ?_
            refine ce_then ?_
            refine cw_true rfl ?_
            refine cw_skip ?_
            refine ce_then ?_
            refine cw_seq ?_
            refine cw_block ?_
            refine cw_seq ?_
            refine cw_region ?_
            refine wl_v (ov_loadAgg (vs := [.int .i64 (((m : Nat) : Int)), .slice A4 ((tcTo m es k).length) (c4)]) tI25 (holds_blk (List.Mem.tail _ (List.Mem.tail _ (List.Mem.tail _ (List.Mem.head _))))) rfl some_lit rfl rfl) rfl rfl rfl ?_
            refine wl_v (ov_move rfl) rfl rfl rfl ?_
            refine wl_v (ov_move rfl) rfl rfl rfl ?_
            refine wl_r (or_call (fv := []) (vs := [.agg #[.int .i64 (((m : Nat) : Int)), .slice A4 ((tcTo m es k).length) (c4)], .int .i64 (((q : Nat) : Int)), .int .i64 (((r : Nat) : Int))]) (cs := []) en87 rfl rfl (call_v (fun w hw => hasEdge_c w ((m : Nat) : Int) A4 ((tcTo m es k).length) c4 (tcTo m es k) ((q : Nat) : Int) ((r : Nat) : Int) ((holds_or (List.Mem.tail _ (List.Mem.tail _ (List.Mem.head _))) hk5) w hw) rfl hk4 (by omega)))) rfl rfl (kt_if rfl (fun c46 => ?_) (fun c46 => ?_))
            ·
              have hru : ((r : Nat) : Int) = u0 := (hst.has _).1 (by rw [← hqv]; exact c46)
              have hnx : tcTo m es (k + 1) = delE (tcTo m es k) ((q : Nat) : Int) ((r : Nat) : Int) := by rw [hst.next, hqv, hru]
              refine wl_nil ?_
              refine ce_then ?_
              refine cw_true rfl ?_
              refine cw_seq ?_
              refine cw_region ?_
              refine wl_v (ov_move rfl) rfl rfl rfl ?_
              refine wl_v (ov_move rfl) rfl rfl rfl ?_
              refine wl_r (or_buildSlice (e := 3) (size := 1) (is := [0]) (vs := [.int .i64 (((r : Nat) : Int))]) (cs := cells fI ([((r : Nat) : Int)])) rfl rfl rfl (by decide) (fun _ => by kernel_rfl)) rfl rfl (kt1 rfl (fun g49 => ?_))
              refine wl_r (or_append (c2 := 1) sI38 tI3 rfl (by decide) rfl rfl (.tail (.tail (.tail (.tail (.tail .head))))) (holds_row (List.Mem.head _)) (by rw [cells_length fI_len]; try simp) (one_cells fI_one _) cells_append (by omega) (by omega)) rfl rfl (kt2p rfl (fun A50 c50 h50 => ?_))
              refine wl_v (ov_assign rfl) rfl rfl rfl ?_
              refine wl_nil ?_
              refine ce_then ?_
              refine cw_seq ?_
              refine cw_region ?_
              refine wl_v (ov_loadAgg (vs := [.int .i64 (((m : Nat) : Int)), .slice A4 ((tcTo m es k).length) (c4)]) tI25 (holds_blk (List.Mem.tail _ (List.Mem.tail _ (List.Mem.tail _ (List.Mem.tail _ (List.Mem.tail _ (List.Mem.head _))))))) rfl some_lit rfl rfl) rfl rfl rfl ?_
              refine wl_v (ov_move rfl) rfl rfl rfl ?_
              refine wl_v (ov_move rfl) rfl rfl rfl ?_
              refine wl_r (or_call (fv := []) (vs := [.agg #[.int .i64 (((m : Nat) : Int)), .slice A4 ((tcTo m es k).length) (c4)], .int .i64 (((q : Nat) : Int)), .int .i64 (((r : Nat) : Int))]) (cs := []) en88 rfl rfl (call_x2 (fun w hw => dropEdgeX_c w ((m : Nat) : Int) A4 ((tcTo m es k).length) c4 (tcTo m es k) ((q : Nat) : Int) ((r : Nat) : Int) ((holds_or (List.Mem.tail _ (List.Mem.tail _ (List.Mem.tail _ (List.Mem.tail _ (List.Mem.head _))))) hk5) w hw) rfl hk4 (by omega)))) rfl rfl (kt2p rfl (fun A2_54 c2_54 h_54 => ?_))
              refine wl_r0 (or_store_blk (vs := [.int .i64 (((m : Nat) : Int)), .slice A2_54 ((delE (tcTo m es k) ((q : Nat) : Int) ((r : Nat) : Int)).length) (c2_54)]) (cs' := [.int .i64 (((m : Nat) : Int)), .slice A2_54 ((delE (tcTo m es k) ((q : Nat) : Int) ((r : Nat) : Int)).length) (c2_54)]) (.tail (.tail (.tail (.tail (.tail (.tail .head)))))) tI25 rfl rfl rfl rfl (Nat.le_of_ble_eq_true rfl) rfl) rfl rfl (kn0 ?_)
              refine wl_nil ?_
              refine ce_then ?_
              refine cw_exit ?_
              refine ce_miss rfl ?_
              refine ce_then_exit ?_
              refine ce_then_exit ?_
              refine ce_hit ?_
              refine ce_then ?_
              refine cw_seq ?_
              refine cw_region ?_
              refine wl_v (ov_move rfl) rfl rfl rfl ?_
              refine wl_v (ov_move rfl) rfl rfl rfl ?_
              refine wl_r (or_buildSlice (e := 3) (size := 1) (is := [0]) (vs := [.int .i64 (((q : Nat) : Int))]) (cs := cells fI ([((q : Nat) : Int)])) rfl rfl rfl (by decide) (fun _ => by kernel_rfl)) rfl rfl (kt1 rfl (fun g57 => ?_))
              refine wl_r (or_append (c2 := 1) sI38 tI3 rfl (by decide) rfl rfl (.tail (.tail (.tail (.tail (.tail (.tail .head)))))) (holds_row (List.Mem.head _)) (by rw [cells_length fI_len]; try simp) (one_cells fI_one _) cells_append (by omega) (by omega)) rfl rfl (kt2p rfl (fun A58 c58 h58 => ?_))
              refine wl_v (ov_assign rfl) rfl rfl rfl ?_
              refine wl_nil ?_
              refine ce_then ?_
              refine cw_exit ?_
              refine ce_miss rfl ?_
              refine ce_then_exit ?_
              refine ce_then_exit ?_
              refine ce_hit ?_
              refine ce_block ?_
              exact fun ac_ w_ hs_ => hR0 (k + 1) A50 c50 A58 c58 A2_54 c2_54 A2_54 ((delE (tcTo m es k) ((q : Nat) : Int) ((r : Nat) : Int)).length) c2_54 (delE (tcTo m es k) ((q : Nat) : Int) ((r : Nat) : Int)) ⟨by omega, h50, h58, by rw [hnx]; exact h_54, .inl ⟨rfl, by rw [hnx]⟩⟩ (by omega) ac_ w_ (hs_.weaken (.cons rfl (.cons rfl (.cons rfl (.cons rfl (.cons rfl (.nil)))))) (.consE (show row 3 1 A58 (k + 1) (c58) (cells fI ((tcGone m es k) ++ ([((q : Nat) : Int)]))) = row 3 1 A58 ((k + 1)) (c58) (cells fI (tcGone m es (k + 1))) by rw [tcGone_succ hst, hqv]) (.head) (.cons (.tail (.tail .head)) (.consE (show blk g4 [.int .i64 (((m : Nat) : Int)), .slice A2_54 ((delE (tcTo m es k) ((q : Nat) : Int) ((r : Nat) : Int)).length) (c2_54)] 25 = blk g4 [.int .i64 (((m : Nat) : Int)), .slice A2_54 ((tcTo m es (k + 1)).length) (c2_54)] 25 by rw [hnx]) (.tail .head) (.consE (show row 3 1 A50 (k + 1) (c50) (cells fI ((tcOut m es k) ++ ([((r : Nat) : Int)]))) = row 3 1 A50 ((k + 1)) (c50) (cells fI (tcOut m es (k + 1))) by rw [tcOut_succ hst, hru]) (.tail .head) (.cons (.tail (.tail (.tail (.tail .head)))) (.nil)))))))
            ·
              refine wl_nil ?_
              refine ce_then ?_
              refine cw_false rfl ?_
              refine cw_skip ?_
              refine ce_block ?_
              refine ce_then ?_
              refine cw_region ?_
              refine wl_v (ov_move rfl) rfl rfl rfl ?_
              refine wl_v (ov_add (r := ((r + 1 : Nat) : Int)) rfl rfl rfl (by omega)) rfl rfl rfl ?_
              refine wl_v (ov_assign rfl) rfl rfl rfl ?_
              refine wl_nil ?_
              exact fun ac_ w_ hs_ => hR2 (r + 1) (by have h9 : ((r : Nat) : Int) ≠ u0 := fun e => c46 ((hst.has _).2 e |> fun h => by rw [hqv]; exact h); omega) (by omega) ac_ w_ (hs_.weaken (.cons rfl (.cons rfl (.cons rfl (.cons rfl (.cons rfl (.cons rfl (.cons rfl (.cons rfl (.nil))))))))) (.cons (.head) (.cons (.head) (.cons (.head) (.cons (.head) (.cons (.head) (.cons (.head) (.nil))))))))
          ·
            (exfalso; omega)
      ·
        refine wl_v (ov_move rfl) rfl rfl rfl ?_
        refine wl_not rfl rfl rfl rfl rfl rfl ?_
        refine wl_not rfl rfl rfl rfl rfl rfl ?_
        refine wl_not rfl rfl rfl rfl rfl rfl ?_
        refine wl_not rfl rfl rfl rfl rfl rfl ?_
        refine wl_v (ov_pick_f rfl rfl) rfl rfl rfl ?_
        refine wl_nil ?_
        refine ce_then ?_
        refine cw_false rfl ?_
        refine cw_skip ?_
        refine ce_block ?_
        refine ce_then ?_
        refine cw_region ?_
        refine wl_v (ov_move rfl) rfl rfl rfl ?_
        refine wl_v (ov_add (r := ((q + 1 : Nat) : Int)) rfl rfl rfl (by omega)) rfl rfl rfl ?_
        refine wl_v (ov_assign rfl) rfl rfl rfl ?_
        refine wl_nil ?_
        exact fun ac_ w_ hs_ => hR1 (q + 1) (by have := degs_leaf' hsq.gr hst c30; omega) (by omega) ac_ w_ (hs_.weaken (.cons rfl (.cons rfl (.cons rfl (.cons rfl (.cons rfl (.cons rfl (.cons rfl (.nil)))))))) (.cons (.head) (.cons (.head) (.cons (.head) (.cons (.head) (.cons (.head) (.cons (.head) (.nil))))))))
    ·
      (exfalso; omega)
  ·
    refine wl_nil ?_
    refine ce_then ?_
    refine cw_false rfl ?_
    refine cw_exit ?_
    refine ce_then_exit ?_
    refine ce_then_exit ?_
    refine ce_hit ?_
    refine ce_then ?_
    refine cw_seq ?_
    refine cw_region ?_
    refine wl_v (ov_move rfl) rfl rfl rfl ?_
    refine wl_v (ov_assign rfl) rfl rfl rfl ?_
    refine wl_nil ?_
    refine ce_then ?_
    refine cw_ret ?_
    refine ce_results (v := .slice A3 (k) (c3)) (res1 rfl (rv_t rfl)) (fun w' hw => ?_)
    exact ⟨A3, c3, (by omega), (by rw [show m - 2 = k from by omega]), ((.consE (show row 3 1 A3 (k) (c3) (cells fI (tcOut m es k)) = row 3 1 A3 (m - 2) (c3) (cells fI (tcOut m es (m - 2))) by rw [show m - 2 = k from by omega]) (.tail (.tail (.tail .head))) (.nil) : Keep _ _).ss hw).to_new⟩
end Go.Proofs.Ytkkllkkjdbpjpaa.W44
