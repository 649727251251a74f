/- Walks of functions of the given program: each returns what its Lean function says and leaves the memory that was there as it was. Conditions: those of each theorem. -/
import Derived.Test.YtkkllkkjdbpjpaaSm
import Derived.Test.YtkkllkkjdbpjpaaProg
import Derived.Test.YtkkllkkjdbpjpaaPl
import Derived.Test.YtkkllkkjdbpjpaaPo
import Derived.Test.YtkkllkkjdbpjpaaPd
import Derived.Test.YtkkllkkjdbpjpaaPe
import Derived.Test.YtkkllkkjdbpjpaaPh
import Derived.Test.YtkkllkkjdbpjpaaPm
import Derived.Test.YtkkllkkjdbpjpaaPc
import Derived.Test.YtkkllkkjdbpjpaaPs
import Derived.Test.YtkkllkkjdbpjpaaPt
import Derived.Test.YtkkllkkjdbpjpaaPu
import Derived.Test.YtkkllkkjdbpjpaaPv
import Derived.Test.YtkkllkkjdbpjpaaPw
import Derived.Test.YtkkllkkjdbpjpaaPx
import Derived.Test.YtkkllkkjdbpjpaaPy
import Derived.Test.YtkkllkkjdbpjpaaPz
import Derived.Test.YtkkllkkjdbpjpaaPr
import Derived.Test.YtkkllkkjdbpjpaaPa
import Derived.Test.YtkkllkkjdbpjpaaPn
import Derived.Test.YtkkllkkjdbpjpaaPj
import Derived.Test.YtkkllkkjdbpjpaaPq
import Derived.Test.YtkkllkkjdbpjpaaSp
import Derived.Test.YtkkllkkjdbpjpaaPp
import Derived.Test.YtkkllkkjdbpjpaaSs
import Derived.Test.YtkkllkkjdbpjpaaSr
import Derived.Test.YtkkllkkjdbpjpaaPb
import Derived.Test.YtkkllkkjdbpjpaaSe
import Derived.Test.YtkkllkkjdbpjpaaSf
import Derived.Test.YtkkllkkjdbpjpaaT
import Derived.Test.YtkkllkkjdbpjpaaW5
import Derived.Test.YtkkllkkjdbpjpaaW13
import Derived.KernelRfl
namespace Go.Proofs.Ytkkllkkjdbpjpaa.W44
open Go.Sx Go.RowKit Go.Proofs.Ytkkllkkjdbpjpaa.T Go.Proofs.Ytkkllkkjdbpjpaa.W5 Go.Proofs.Ytkkllkkjdbpjpaa.W13
open Go.Plain
set_option linter.unusedVariables false
set_option maxRecDepth 100000 in
theorem dropEdgeX_c (w : World) (N : Int) (A : Option Addr) (n : Nat) (c : Nat) (es : List (Int × Int)) (a : Int) (b : Int) (hA : At w A (cells fE es)) (eA : es.length = n) (lA : n ≤ c) (hs : es.length ≤ 1000) : Calls Try.prog 88 #[.agg #[.int .i64 (N), .slice A (n) (c)], .int .i64 (a), .int .i64 (b)] w (Ret fun rv w' => ∃ A2 c2, ((delE es a b).length ≤ c2) ∧ rv = .agg #[.int .i64 (N), .slice A2 ((delE es a b).length) (c2)] ∧ New w w' [row 65 2 A2 ((delE es a b).length) (c2) (cells fE (delE es a b))]) := by
  have oA := hA.atB
  subst eA
  refine fn_enter (args := [.agg #[.int .i64 (N), .slice A (es.length) (c)], .int .i64 (a), .int .i64 (b)]) Try.func88 rfl Try.ntmps88 rfl (SS.start w) ?_
  refine cw_seq ?_
  refine cw_region ?_
  refine wl_r (or_box rfl rfl) rfl rfl (kt1 rfl (fun g3 => ?_))
  refine wl_r (or_alloc tI25 rfl) rfl rfl (kt1 rfl (fun g6 => ?_))
  refine wl_nil ?_
  refine ce_then ?_
  refine cw_seq ?_
  refine cw_region ?_
  refine wl_v (ov_fieldAddr fI25_0 some_lit rfl) rfl rfl rfl ?_
  refine wl_v (ov_load tI3 (holds_blk (List.Mem.tail _ (List.Mem.head _))) rfl rfl) rfl rfl rfl ?_
  refine wl_r (or_buildSlice (e := 65) (size := 2) (is := []) (vs := []) (cs := cells fE ([])) rfl rfl rfl (by decide) (fun _ => by kernel_rfl)) rfl rfl (kt1 rfl (fun g12 => ?_))
  refine wl_v (ov_build (is := [0, 1]) (vs := [.int .i64 (N), .slice (some ⟨g12, 0, none⟩) (0) (0)]) (v := .agg #[.int .i64 (N), .slice (some ⟨g12, 0, none⟩) (0) (0)]) rfl rfl (fun _ => by kernel_rfl)) rfl rfl rfl ?_
  refine wl_r (or_alloc tI25 rfl) rfl rfl (kt1 rfl (fun g7 => ?_))
  refine wl_r0 (or_store_blk (vs := [.int .i64 (N), .slice (some ⟨g12, 0, none⟩) (0) (0)]) (cs' := [.int .i64 (N), .slice (some ⟨g12, 0, none⟩) (0) (0)]) (.head) tI25 rfl rfl rfl rfl (Nat.le_of_ble_eq_true rfl) rfl) rfl rfl (kn0 ?_)
  refine wl_nil ?_
  refine ce_then ?_
  refine cw_seq ?_
  refine cw_seq ?_
  refine cw_region ?_
  refine wl_v (ov_assign rfl) rfl rfl rfl ?_
  refine wl_nil ?_
  refine ce_then ?_
  refine cw_block ?_
  refine cw_loop3 (fun (k : Nat) (A3 : Option Addr) (c3 : Nat) => [(1, .int .i64 (a)), (2, .int .i64 (b)), (3, elp (some ⟨g3, 0, none⟩) (0)), (6, elp (some ⟨g6, 0, none⟩) (0)), (7, elp (some ⟨g7, 0, none⟩) (0)), (8, .int .i64 (((k : Nat) : Int)))]) (fun (k : Nat) (A3 : Option Addr) (c3 : Nat) => [blk g7 [.int .i64 (N), .slice A3 ((delE (es.take k) a b).length) (c3)] 25, row 65 2 A3 ((delE (es.take k) a b).length) (c3) (cells fE (delE (es.take k) a b)), blk g6 [.int .i64 (0), .slice none (0) (0)] 25, blk g3 [.int .i64 (N), .slice A (es.length) (c)] 25]) (fun (k : Nat) (A3 : Option Addr) (c3 : Nat) => k ≤ es.length ∧ (delE (es.take k) a b).length ≤ c3) (fun (k : Nat) (A3 : Option Addr) (c3 : Nat) => es.length - k) 0 (some ⟨g12, 0, none⟩) 0 ⟨by omega, Nat.le_refl _⟩ (.cons rfl (.cons rfl (.cons rfl (.cons rfl (.cons rfl (.cons (congrArg (fun z => some (Value.int .i64 z)) (show 0 = ((0 : Nat) : Int) by first | omega | rfl | (simp; done))) (.nil))))))) (.consE (show blk g7 [.int .i64 (N), .slice (some ⟨g12, 0, none⟩) (0) (0)] 25 = blk g7 [.int .i64 (N), .slice (some ⟨g12, 0, none⟩) ((delE (es.take 0) a b).length) (0)] 25 by rfl) (.head) (.consE (show row 65 2 (some ⟨g12, 0, none⟩) (0) (0) (cells fE ([])) = row 65 2 (some ⟨g12, 0, none⟩) ((delE (es.take 0) a b).length) (0) (cells fE (delE (es.take 0) a b)) by rfl) (.head) (.cons (.head) (.cons (.head) (.nil))))) ?_
  intro R0 k A3 c3 hk hR0
  obtain ⟨hk1, hk2⟩ := hk
  have hdl := delE_le (es.take k) a b
  have hdt : (es.take k).length ≤ es.length := by rw [List.length_take]; omega
  refine cw_seq ?_
  refine cw_seq ?_
  refine cw_region ?_
  refine wl_v (ov_move rfl) rfl rfl rfl ?_
  refine wl_v (ov_fieldAddr fI25_1 some_lit rfl) rfl rfl rfl ?_
  refine wl_v (ov_load tI23 (holds_blk (List.Mem.tail _ (List.Mem.tail _ (List.Mem.tail _ (List.Mem.head _))))) rfl rfl) rfl rfl rfl ?_
  refine wl_v (ov_len (sliceI_spec sI23) rfl) rfl rfl rfl ?_
  refine wl_if (ov_lss rfl rfl) rfl rfl rfl (fun c18 => ?_) (fun c18 => ?_)
  ·
    refine wl_nil ?_
    refine ce_then ?_
    refine cw_true rfl ?_
    refine cw_skip ?_
    refine ce_then ?_
    refine cw_seq ?_
    refine cw_block ?_
    refine cw_seq ?_
    refine cw_region ?_
    refine wl_v (ov_fieldAddr fI25_1 some_lit rfl) rfl rfl rfl ?_
    refine wl_v (ov_load tI23 (holds_blk (List.Mem.tail _ (List.Mem.tail _ (List.Mem.tail _ (List.Mem.head _))))) rfl rfl) rfl rfl rfl ?_
    refine wl_v (ov_move rfl) rfl rfl rfl ?_
    refine wl_v (ov_index (k := k) (c := c) sI23 tI65 rfl rfl (some_holds (q := k * 2) (holds_old oA) (by rw [cells_length fE_len]; have hlt : k < es.length := (by omega); omega)) (show k < es.length from (by omega))) rfl rfl rfl ?_
    refine wl_v (ov_loadAgg (vs := [.int .i64 ((es.getD k (0, 0)).1), .int .i64 ((es.getD k (0, 0)).2)]) tI65 (holds_old oA) rfl (some_holds (q := k * 2) (holds_old oA) (by rw [cells_length fE_len]; have hlt : k < es.length := (by omega); omega)) (cells_elem fE_len (0, 0) (show k < es.length from (by omega))) rfl) rfl rfl rfl ?_
    refine wl_r (or_alloc tI65 rfl) rfl rfl (kt1 rfl (fun g9 => ?_))
    refine wl_r0 (or_store_blk (vs := [.int .i64 ((es.getD k (0, 0)).1), .int .i64 ((es.getD k (0, 0)).2)]) (cs' := [.int .i64 ((es.getD k (0, 0)).1), .int .i64 ((es.getD k (0, 0)).2)]) (.head) tI65 rfl rfl rfl rfl (Nat.le_of_ble_eq_true rfl) rfl) rfl rfl (kn0 ?_)
    refine wl_nil ?_
    refine ce_then ?_
    refine cw_seq ?_
    refine cw_region ?_
    refine wl_v (ov_fieldAddr fI65_0 some_lit rfl) rfl rfl rfl ?_
    refine wl_v (ov_load tI3 (holds_blk (List.Mem.head _)) rfl rfl) rfl rfl rfl ?_
    refine wl_v (ov_move rfl) rfl rfl rfl ?_
    refine wl_v (ov_move rfl) rfl rfl rfl ?_
    refine wl_v (ov_min (r := min a b) rfl rfl (by first | omega | (split <;> omega))) rfl rfl rfl ?_
    refine wl_if (ov_neq rfl rfl) rfl rfl rfl (fun c31 => ?_) (fun c31 => ?_)
    ·
      refine wl_v (ov_move rfl) rfl rfl rfl ?_
      refine wl_not rfl rfl rfl rfl rfl rfl ?_
      refine wl_not rfl rfl rfl rfl rfl rfl ?_
      refine wl_not rfl rfl rfl rfl rfl rfl ?_
      refine wl_not rfl rfl rfl rfl rfl rfl ?_
      refine wl_not rfl rfl rfl rfl rfl rfl ?_
      refine wl_not rfl rfl rfl rfl rfl rfl ?_
      refine wl_v (ov_pick_t rfl rfl) rfl rfl rfl ?_
      refine wl_nil ?_
      refine ce_then ?_
      refine cw_true rfl ?_
      refine cw_region ?_
      refine wl_v (ov_fieldAddr fI25_1 some_lit rfl) rfl rfl rfl ?_
      refine wl_v (ov_load tI23 (holds_blk (List.Mem.tail _ (List.Mem.head _))) rfl rfl) rfl rfl rfl ?_
      refine wl_v (ov_loadAgg (vs := [.int .i64 ((es.getD k (0, 0)).1), .int .i64 ((es.getD k (0, 0)).2)]) tI65 (holds_blk (List.Mem.head _)) rfl some_lit rfl rfl) rfl rfl rfl ?_
      refine wl_r (or_buildSlice (e := 65) (size := 2) (is := [0]) (vs := [.agg #[.int .i64 ((es.getD k (0, 0)).1), .int .i64 ((es.getD k (0, 0)).2)]]) (cs := cells fE ([((es.getD k (0, 0)).1, (es.getD k (0, 0)).2)])) rfl rfl rfl (by decide) (fun _ => by kernel_rfl)) rfl rfl (kt1 rfl (fun g43 => ?_))
      refine wl_r (or_append (c2 := 1) sI23 tI65 rfl (by decide) rfl rfl (.tail (.tail (.tail .head))) (holds_row (List.Mem.head _)) (by rw [cells_length fE_len]; try simp) (one_cells fE_one _) cells_append (by omega) (by omega)) rfl rfl (kt2p rfl (fun A44 c44 h44 => ?_))
      refine wl_v (ov_fieldAddr fI25_1 some_lit rfl) rfl rfl rfl ?_
      refine wl_r0 (or_store_blk (vs := [.slice A44 (((delE (es.take k) a b).length) + 1) (c44)]) (cs' := [.int .i64 (N), .slice A44 (((delE (es.take k) a b).length) + 1) (c44)]) (.tail (.tail (.tail .head))) tI23 rfl rfl rfl rfl (Nat.le_of_ble_eq_true rfl) rfl) rfl rfl (kn0 ?_)
      refine wl_nil ?_
      refine ce_block ?_
      refine ce_then ?_
      refine cw_region ?_
      refine wl_v (ov_move rfl) rfl rfl rfl ?_
      refine wl_v (ov_add (r := ((k + 1 : Nat) : Int)) rfl rfl rfl (by omega)) rfl rfl rfl ?_
      refine wl_v (ov_assign rfl) rfl rfl rfl ?_
      refine wl_nil ?_
      exact fun ac_ w_ hs_ => hR0 (k + 1) A44 c44 ⟨by omega, by rw [del_keepE (by omega) (.inl c31), List.length_append]; exact h44⟩ (by omega) ac_ w_ (hs_.weaken (.cons rfl (.cons rfl (.cons rfl (.cons rfl (.cons rfl (.cons rfl (.nil))))))) (.consE (show blk g7 [.int .i64 (N), .slice A44 (((delE (es.take k) a b).length) + 1) (c44)] 25 = blk g7 [.int .i64 (N), .slice A44 ((delE (es.take (k + 1)) a b).length) (c44)] 25 by rw [del_keepE (by omega) (.inl c31), List.length_append]; rfl) (.head) (.consE (show row 65 2 A44 (((delE (es.take k) a b).length) + 1) (c44) (cells fE ((delE (es.take k) a b) ++ ([((es.getD k (0, 0)).1, (es.getD k (0, 0)).2)]))) = row 65 2 A44 ((delE (es.take (k + 1)) a b).length) (c44) (cells fE (delE (es.take (k + 1)) a b)) by rw [del_keepE (by omega) (.inl c31), List.length_append]; rfl) (.head) (.cons (.tail (.tail .head)) (.cons (.tail (.tail .head)) (.nil))))))
    ·
      refine wl_v (ov_move rfl) rfl rfl rfl ?_
      refine wl_go rfl rfl ?_
      refine wl_v (ov_fieldAddr fI65_1 some_lit rfl) rfl rfl rfl ?_
      refine wl_go rfl rfl ?_
      refine wl_v (ov_load tI3 (holds_blk (List.Mem.head _)) rfl rfl) rfl rfl rfl ?_
      refine wl_go rfl rfl ?_
      refine wl_v (ov_move rfl) rfl rfl rfl ?_
      refine wl_go rfl rfl ?_
      refine wl_v (ov_move rfl) rfl rfl rfl ?_
      refine wl_go rfl rfl ?_
      refine wl_v (ov_max (r := max a b) rfl rfl (by first | omega | (split <;> omega))) rfl rfl rfl ?_
      refine wl_go rfl rfl ?_
      refine wl_if (ov_neq rfl rfl) rfl rfl rfl (fun c38 => ?_) (fun c38 => ?_)
      ·
        refine wl_v (ov_pick_f rfl rfl) rfl rfl rfl ?_
        refine wl_nil ?_
        refine ce_then ?_
        refine cw_true rfl ?_
        refine cw_region ?_
        refine wl_v (ov_fieldAddr fI25_1 some_lit rfl) rfl rfl rfl ?_
        refine wl_v (ov_load tI23 (holds_blk (List.Mem.tail _ (List.Mem.head _))) rfl rfl) rfl rfl rfl ?_
        refine wl_v (ov_loadAgg (vs := [.int .i64 ((es.getD k (0, 0)).1), .int .i64 ((es.getD k (0, 0)).2)]) tI65 (holds_blk (List.Mem.head _)) rfl some_lit rfl rfl) rfl rfl rfl ?_
        refine wl_r (or_buildSlice (e := 65) (size := 2) (is := [0]) (vs := [.agg #[.int .i64 ((es.getD k (0, 0)).1), .int .i64 ((es.getD k (0, 0)).2)]]) (cs := cells fE ([((es.getD k (0, 0)).1, (es.getD k (0, 0)).2)])) rfl rfl rfl (by decide) (fun _ => by kernel_rfl)) rfl rfl (kt1 rfl (fun g43 => ?_))
        refine wl_r (or_append (c2 := 1) sI23 tI65 rfl (by decide) rfl rfl (.tail (.tail (.tail .head))) (holds_row (List.Mem.head _)) (by rw [cells_length fE_len]; try simp) (one_cells fE_one _) cells_append (by omega) (by omega)) rfl rfl (kt2p rfl (fun A44 c44 h44 => ?_))
        refine wl_v (ov_fieldAddr fI25_1 some_lit rfl) rfl rfl rfl ?_
        refine wl_r0 (or_store_blk (vs := [.slice A44 (((delE (es.take k) a b).length) + 1) (c44)]) (cs' := [.int .i64 (N), .slice A44 (((delE (es.take k) a b).length) + 1) (c44)]) (.tail (.tail (.tail .head))) tI23 rfl rfl rfl rfl (Nat.le_of_ble_eq_true rfl) rfl) rfl rfl (kn0 ?_)
        refine wl_nil ?_
        refine ce_block ?_
        refine ce_then ?_
        refine cw_region ?_
        refine wl_v (ov_move rfl) rfl rfl rfl ?_
        refine wl_v (ov_add (r := ((k + 1 : Nat) : Int)) rfl rfl rfl (by omega)) rfl rfl rfl ?_
        refine wl_v (ov_assign rfl) rfl rfl rfl ?_
        refine wl_nil ?_
        exact fun ac_ w_ hs_ => hR0 (k + 1) A44 c44 ⟨by omega, by rw [del_keepE (by omega) (.inr c38), List.length_append]; exact h44⟩ (by omega) ac_ w_ (hs_.weaken (.cons rfl (.cons rfl (.cons rfl (.cons rfl (.cons rfl (.cons rfl (.nil))))))) (.consE (show blk g7 [.int .i64 (N), .slice A44 (((delE (es.take k) a b).length) + 1) (c44)] 25 = blk g7 [.int .i64 (N), .slice A44 ((delE (es.take (k + 1)) a b).length) (c44)] 25 by rw [del_keepE (by omega) (.inr c38), List.length_append]; rfl) (.head) (.consE (show row 65 2 A44 (((delE (es.take k) a b).length) + 1) (c44) (cells fE ((delE (es.take k) a b) ++ ([((es.getD k (0, 0)).1, (es.getD k (0, 0)).2)]))) = row 65 2 A44 ((delE (es.take (k + 1)) a b).length) (c44) (cells fE (delE (es.take (k + 1)) a b)) by rw [del_keepE (by omega) (.inr c38), List.length_append]; rfl) (.head) (.cons (.tail (.tail .head)) (.cons (.tail (.tail .head)) (.nil))))))
      ·
        refine wl_v (ov_pick_f rfl rfl) rfl rfl rfl ?_
        refine wl_nil ?_
        refine ce_then ?_
        refine cw_false rfl ?_
        refine cw_skip ?_
        refine ce_block ?_
        refine ce_then ?_
        refine cw_region ?_
        refine wl_v (ov_move rfl) rfl rfl rfl ?_
        refine wl_v (ov_add (r := ((k + 1 : Nat) : Int)) rfl rfl rfl (by omega)) rfl rfl rfl ?_
        refine wl_v (ov_assign rfl) rfl rfl rfl ?_
        refine wl_nil ?_
        exact fun ac_ w_ hs_ => hR0 (k + 1) A3 c3 ⟨by omega, by rw [del_skipE (by omega) (by omega) (by omega)]; exact hk2⟩ (by omega) ac_ w_ (hs_.weaken (.cons rfl (.cons rfl (.cons rfl (.cons rfl (.cons rfl (.cons rfl (.nil))))))) (.consE (show blk g7 [.int .i64 (N), .slice A3 ((delE (es.take k) a b).length) (c3)] 25 = blk g7 [.int .i64 (N), .slice A3 ((delE (es.take (k + 1)) a b).length) (c3)] 25 by rw [del_skipE (by omega) (by omega) (by omega)]) (.tail .head) (.consE (show row 65 2 A3 ((delE (es.take k) a b).length) (c3) (cells fE (delE (es.take k) a b)) = row 65 2 A3 ((delE (es.take (k + 1)) a b).length) (c3) (cells fE (delE (es.take (k + 1)) a b)) by rw [del_skipE (by omega) (by omega) (by omega)]) (.tail .head) (.cons (.tail .head) (.cons (.tail .head) (.nil))))))
  ·
    refine wl_nil ?_
    refine ce_then ?_
    refine cw_false rfl ?_
    refine cw_exit ?_
    refine ce_then_exit ?_
    refine ce_then_exit ?_
    refine ce_hit ?_
    refine ce_then ?_
    refine cw_seq ?_
    refine cw_region ?_
    refine wl_v (ov_loadAgg (vs := [.int .i64 (N), .slice A3 ((delE (es.take k) a b).length) (c3)]) tI25 (holds_blk (List.Mem.head _)) rfl some_lit rfl rfl) rfl rfl rfl ?_
    refine wl_r0 (or_store_blk (vs := [.int .i64 (N), .slice A3 ((delE (es.take k) a b).length) (c3)]) (cs' := [.int .i64 (N), .slice A3 ((delE (es.take k) a b).length) (c3)]) (.tail (.tail .head)) tI25 rfl rfl rfl rfl (Nat.le_of_ble_eq_true rfl) rfl) rfl rfl (kn0 ?_)
    refine wl_nil ?_
    refine ce_then ?_
    refine cw_ret ?_
    refine ce_results (v := .agg #[.int .i64 (N), .slice A3 ((delE (es.take k) a b).length) (c3)]) (res1 rfl (rv_c rfl tI25 rfl (List.Mem.head _))) (fun w' hw => ?_)
    exact ⟨A3, c3, (by rw [show delE es a b = delE (es.take k) a b from (delE_all (by omega)).symm]; exact hk2), (by rw [show delE es a b = delE (es.take k) a b from (delE_all (by omega)).symm]), ((.consE (show row 65 2 A3 ((delE (es.take k) a b).length) (c3) (cells fE (delE (es.take k) a b)) = row 65 2 A3 ((delE es a b).length) (c3) (cells fE (delE es a b)) by rw [show delE es a b = delE (es.take k) a b from (delE_all (by omega)).symm]) (.tail (.tail .head)) (.nil) : Keep _ _).ss hw).to_new⟩
set_option maxRecDepth 100000 in
theorem addEdgeX_c (w : World) (N : Int) (A : Option Addr) (n : Nat) (c : Nat) (es : List (Int × Int)) (a : Int) (b : Int) (hA : At w A (cells fE es)) (eA : es.length = n) (lA : n ≤ c) (hs : es.length ≤ 1000) : Calls Try.prog 94 #[.agg #[.int .i64 (N), .slice A (n) (c)], .int .i64 (a), .int .i64 (b)] w (Ret fun rv w' => ∃ A2 c2, ((insE es (edg a b)).length ≤ c2) ∧ rv = .agg #[.int .i64 (N), .slice A2 ((insE es (edg a b)).length) (c2)] ∧ New w w' [row 65 2 A2 ((insE es (edg a b)).length) (c2) (cells fE (insE es (edg a b)))]) := by
  have oA := hA.atB
  subst eA
  refine fn_enter (args := [.agg #[.int .i64 (N), .slice A (es.length) (c)], .int .i64 (a), .int .i64 (b)]) Try.func94 rfl Try.ntmps94 rfl (SS.start w) ?_
  refine cw_seq ?_
  refine cw_region ?_
  refine wl_r (or_box rfl rfl) rfl rfl (kt1 rfl (fun g3 => ?_))
  refine wl_r (or_alloc tI25 rfl) rfl rfl (kt1 rfl (fun g6 => ?_))
  refine wl_nil ?_
  refine ce_then ?_
  refine cw_seq ?_
  refine cw_region ?_
  refine wl_v (ov_move rfl) rfl rfl rfl ?_
  refine wl_v (ov_move rfl) rfl rfl rfl ?_
  refine wl_v (ov_min (r := min a b) rfl rfl (by first | omega | (split <;> omega))) rfl rfl rfl ?_
  refine wl_v (ov_move rfl) rfl rfl rfl ?_
  refine wl_v (ov_move rfl) rfl rfl rfl ?_
  refine wl_v (ov_max (r := max a b) rfl rfl (by first | omega | (split <;> omega))) rfl rfl rfl ?_
  refine wl_v (ov_build (is := [0, 1]) (vs := [.int .i64 (min a b), .int .i64 (max a b)]) (v := .agg #[.int .i64 (min a b), .int .i64 (max a b)]) rfl rfl (fun _ => by kernel_rfl)) rfl rfl rfl ?_
  refine wl_r (or_alloc tI65 rfl) rfl rfl (kt1 rfl (fun g7 => ?_))
  refine wl_r0 (or_store_blk (vs := [.int .i64 (min a b), .int .i64 (max a b)]) (cs' := [.int .i64 (min a b), .int .i64 (max a b)]) (.head) tI65 rfl rfl rfl rfl (Nat.le_of_ble_eq_true rfl) rfl) rfl rfl (kn0 ?_)
  refine wl_nil ?_
  refine ce_then ?_
  refine cw_seq ?_
  refine cw_region ?_
  refine wl_v (ov_assign rfl) rfl rfl rfl ?_
  refine wl_nil ?_
  refine ce_then ?_
  refine cw_seq ?_
  refine cw_block ?_
  refine cw_loop1 (fun (k : Nat) => [(3, elp (some ⟨g3, 0, none⟩) (0)), (6, elp (some ⟨g6, 0, none⟩) (0)), (7, elp (some ⟨g7, 0, none⟩) (0)), (8, .int .i64 (((k : Nat) : Int)))]) (fun (k : Nat) => [blk g7 [.int .i64 (min a b), .int .i64 (max a b)] 65, blk g6 [.int .i64 (0), .slice none (0) (0)] 25, blk g3 [.int .i64 (N), .slice A (es.length) (c)] 25]) (fun (k : Nat) => k ≤ es.length ∧ ∀ x ∈ es.take k, below x (edg a b)) (fun (k : Nat) => es.length - k) 0 ⟨by omega, fun x hx => (by cases hx)⟩ (.cons rfl (.cons rfl (.cons rfl (.cons (congrArg (fun z => some (Value.int .i64 z)) (show 0 = ((0 : Nat) : Int) by first | omega | rfl | (simp; done))) (.nil))))) (.cons (.head) (.cons (.head) (.cons (.head) (.nil)))) ?_
  intro R0 k hk hR0
  obtain ⟨hk1, hk2⟩ := hk
  refine cw_seq ?_
  refine cw_seq ?_
  refine cw_draw mixO [] (.cons (.head) (.cons (.head) (.cons (.head) (.nil)))) rfl ?_
  refine wg_takep (i := 0) rfl (ov_move rfl) rfl rfl rfl (by kernel_rfl) (by kernel_rfl) (by kernel_rfl) rfl ?_
  refine wg_take (i := 1) rfl (ov_fieldAddr fI25_1 some_lit rfl) rfl rfl rfl (by kernel_rfl) (by kernel_rfl) (by kernel_rfl) (by kernel_rfl) ?_
  refine wg_take (i := 2) rfl (ov_load tI23 (holds_blk (List.Mem.tail _ (List.Mem.tail _ (List.Mem.head _)))) rfl rfl) rfl rfl rfl (by kernel_rfl) (by kernel_rfl) (by kernel_rfl) (by kernel_rfl) ?_
  refine wg_takep (i := 3) rfl (ov_len (sliceI_spec sI23) rfl) rfl rfl rfl (by kernel_rfl) (by kernel_rfl) (by kernel_rfl) rfl ?_
  refine wg_takep_if (i := 4) rfl (ov_lss rfl rfl) rfl rfl rfl (by kernel_rfl) (by kernel_rfl) (by kernel_rfl) rfl (fun c21 => ?_) (fun c21 => ?_)
  ·
    refine wg_takep (i := 5) rfl (ov_move rfl) rfl rfl rfl (by kernel_rfl) (by kernel_rfl) (by kernel_rfl) rfl ?_
    refine wg_take_go (i := 6) rfl rfl rfl (ov_fieldAddr fI25_1 some_lit rfl) rfl (by kernel_rfl) (by kernel_rfl) (by kernel_rfl) (by kernel_rfl) ?_
    refine wg_take_go (i := 7) rfl rfl rfl (ov_load tI23 (holds_blk (List.Mem.tail _ (List.Mem.tail _ (List.Mem.head _)))) rfl rfl) rfl (by kernel_rfl) (by kernel_rfl) (by kernel_rfl) (by kernel_rfl) ?_
    refine wg_take_go (i := 8) rfl rfl rfl (ov_move rfl) rfl (by kernel_rfl) (by kernel_rfl) (by kernel_rfl) (by kernel_rfl) ?_
    refine wg_take_go (i := 9) rfl rfl rfl (ov_index (k := k) (c := c) sI23 tI65 rfl rfl (some_holds (q := k * 2) (holds_old oA) (by rw [cells_length fE_len]; have hlt : k < es.length := (by omega); omega)) (show k < es.length from (by omega))) rfl (by kernel_rfl) (by kernel_rfl) (by kernel_rfl) (by kernel_rfl) ?_
    refine wg_take_go (i := 10) rfl rfl rfl (ov_loadAgg (vs := [.int .i64 ((es.getD k (0, 0)).1), .int .i64 ((es.getD k (0, 0)).2)]) tI65 (holds_old oA) rfl (some_holds (q := k * 2) (holds_old oA) (by rw [cells_length fE_len]; have hlt : k < es.length := (by omega); omega)) (cells_elem fE_len (0, 0) (show k < es.length from (by omega))) rfl) rfl (by kernel_rfl) (by kernel_rfl) (by kernel_rfl) (by kernel_rfl) ?_
    refine wg_take_go (i := 11) rfl rfl rfl (ov_loadAgg (vs := [.int .i64 (min a b), .int .i64 (max a b)]) tI65 (holds_blk (List.Mem.head _)) rfl some_lit rfl rfl) rfl (by kernel_rfl) (by kernel_rfl) (by kernel_rfl) (by kernel_rfl) ?_
    refine wg_one (i := 12) (by kernel_rfl) ?_
    refine go_rg rfl rfl rfl rfl (or_call (fv := []) (vs := [.agg #[.int .i64 ((es.getD k (0, 0)).1), .int .i64 ((es.getD k (0, 0)).2)], .agg #[.int .i64 (min a b), .int .i64 (max a b)]]) (cs := []) en81 rfl rfl (call_v (fun w hw => edgeBelow_c w ((es.getD k (0, 0)).1) ((es.getD k (0, 0)).2) (min a b) (max a b) ))) (kt_if rfl (fun c29 => ?_) (fun c29 => ?_))
    ·
      refine gk (.cons (.head) (.cons (.head) (.cons (.head) (.nil)))) ?_
      refine wg_takep (i := 13) rfl (ov_pick_t rfl rfl) rfl rfl rfl (by kernel_rfl) (by kernel_rfl) (by kernel_rfl) rfl ?_
      refine wg_done (by kernel_rfl) ?_
      refine ce_then ?_
      refine cw_true rfl ?_
      refine cw_skip ?_
      refine ce_then ?_
      refine cw_block ?_
      refine cw_region ?_
      refine wl_v (ov_move rfl) rfl rfl rfl ?_
      refine wl_v (ov_add (r := ((k + 1 : Nat) : Int)) rfl rfl rfl (by omega)) rfl rfl rfl ?_
      refine wl_v (ov_assign rfl) rfl rfl rfl ?_
      refine wl_nil ?_
      refine ce_block ?_
      exact fun ac_ w_ hs_ => hR0 (k + 1) ⟨by omega, all_take_step (p := fun x => below x (edg a b)) (0, 0) (by omega) hk2 c29⟩ (by omega) ac_ w_ (hs_.weaken (.cons rfl (.cons rfl (.cons rfl (.cons rfl (.nil))))) (.cons (.head) (.cons (.head) (.cons (.head) (.nil)))))
    ·
      have hend : es.length ≤ k ∨ ¬ below (es.getD k (0, 0)) (edg a b) := .inr c29
      refine gk (.cons (.head) (.cons (.head) (.cons (.head) (.nil)))) ?_
      refine wg_takep (i := 13) rfl (ov_pick_t rfl rfl) rfl rfl rfl (by kernel_rfl) (by kernel_rfl) (by kernel_rfl) rfl ?_
      refine wg_done (by kernel_rfl) ?_
      refine ce_then ?_
      refine cw_false rfl ?_
      refine cw_exit ?_
      refine ce_then_exit ?_
      refine ce_then_exit ?_
      refine ce_hit ?_
      refine ce_then ?_
      refine cw_seq ?_
      refine cw_region ?_
      refine wl_r (or_buildSlice (e := 65) (size := 2) (is := []) (vs := []) (cs := cells fE ([])) rfl rfl rfl (by decide) (fun _ => by kernel_rfl)) rfl rfl (kt1 rfl (fun g33 => ?_))
      refine wl_v (ov_fieldAddr fI25_1 some_lit rfl) rfl rfl rfl ?_
      refine wl_v (ov_load tI23 (holds_blk (List.Mem.tail _ (List.Mem.tail _ (List.Mem.tail _ (List.Mem.head _))))) rfl rfl) rfl rfl rfl ?_
      refine wl_v (ov_move rfl) rfl rfl rfl ?_
      refine wl_v (ov_slice_h (h := k) sI23 tI65 rfl rfl (by omega)) rfl rfl rfl ?_
      refine wl_r (or_append (c2 := c) sI23 tI65 rfl (by decide) rfl rfl (.head) (holds_takeC (k := k) fE_len (holds_old oA)) ((by rw [cells_length fE_len, List.length_take]; omega)) (one_cells fE_one _) cells_append (by omega) (by omega)) rfl rfl (kt2p rfl (fun A38 c38 h38 => ?_))
      refine wl_v (ov_assign rfl) rfl rfl rfl ?_
      refine wl_nil ?_
      refine ce_then ?_
      refine cw_seq ?_
      refine cw_draw mixO [12] (.cons (.tail .head) (.cons (.tail .head) (.cons (.tail .head) (.nil)))) rfl ?_
      refine wg_take (i := 0) rfl (ov_fieldAddr fI25_0 some_lit rfl) rfl rfl rfl (by kernel_rfl) (by kernel_rfl) (by kernel_rfl) (by kernel_rfl) ?_
      refine wg_take (i := 1) rfl (ov_load tI3 (holds_blk (List.Mem.tail _ (List.Mem.tail _ (List.Mem.head _)))) rfl rfl) rfl rfl rfl (by kernel_rfl) (by kernel_rfl) (by kernel_rfl) (by kernel_rfl) ?_
      refine wg_takep (i := 2) rfl (ov_move rfl) rfl rfl rfl (by kernel_rfl) (by kernel_rfl) (by kernel_rfl) rfl ?_
      refine wg_take (i := 3) rfl (ov_loadAgg (vs := [.int .i64 (min a b), .int .i64 (max a b)]) tI65 (holds_blk (List.Mem.head _)) rfl some_lit rfl rfl) rfl rfl rfl (by kernel_rfl) (by kernel_rfl) (by kernel_rfl) (by kernel_rfl) ?_
      refine wg_take (i := 6) rfl (ov_fieldAddr fI25_1 some_lit rfl) rfl rfl rfl (by kernel_rfl) (by kernel_rfl) (by kernel_rfl) (by kernel_rfl) ?_
      refine wg_take (i := 7) rfl (ov_load tI23 (holds_blk (List.Mem.tail _ (List.Mem.tail _ (List.Mem.head _)))) rfl rfl) rfl rfl rfl (by kernel_rfl) (by kernel_rfl) (by kernel_rfl) (by kernel_rfl) ?_
      refine wg_takep (i := 8) rfl (ov_move rfl) rfl rfl rfl (by kernel_rfl) (by kernel_rfl) (by kernel_rfl) rfl ?_
      refine wg_takep (i := 9) rfl (ov_slice_l (l := k) sI23 tI65 rfl rfl (by omega)) rfl rfl rfl (by kernel_rfl) (by kernel_rfl) (by kernel_rfl) rfl ?_
      refine wg_one (i := 4) (by kernel_rfl) ?_
      refine go_r rfl rfl rfl rfl (or_buildSlice (e := 65) (size := 2) (is := [0]) (vs := [.agg #[.int .i64 (min a b), .int .i64 (max a b)]]) (cs := cells fE ([(min a b, max a b)])) rfl rfl rfl (by decide) (fun _ => by kernel_rfl)) (kt1 rfl (fun g43 => ?_))
      refine gk (.cons (.tail (.tail .head)) (.cons (.tail (.tail .head)) (.cons (.tail (.tail .head)) (.nil)))) ?_
      refine wg_one (i := 5) (by kernel_rfl) ?_
      refine go_r rfl rfl rfl rfl (or_append (c2 := 1) sI23 tI65 rfl (by decide) rfl rfl (.tail .head) (holds_row (List.Mem.head _)) (by rw [cells_length fE_len]; try simp) (one_cells fE_one _) cells_append (by omega) (by omega)) (kt2p rfl (fun A44 c44 h44 => ?_))
      refine gk (.cons (.tail (.tail .head)) (.cons (.tail (.tail .head)) (.cons (.tail (.tail .head)) (.nil)))) ?_
      refine wg_one (i := 10) (by kernel_rfl) ?_
      refine go_r rfl rfl rfl rfl (or_append (c2 := c - k) sI23 tI65 rfl (by decide) rfl rfl (.head) (holds_dropC (l := k) fE_len (holds_old oA) (by first | exact lA | omega)) ((by rw [cells_length fE_len, List.length_drop])) (one_cells fE_one _) cells_append (by omega) (by omega)) (kt2p rfl (fun A49 c49 h49 => ?_))
      refine gk (.cons (.tail (.tail .head)) (.cons (.tail (.tail .head)) (.cons (.tail (.tail .head)) (.nil)))) ?_
      refine wg_takep (i := 11) rfl (ov_build (is := [0, 1]) (vs := [.int .i64 (N), .slice A49 (((0 + k) + 1) + (es.length - k)) (c49)]) (v := .agg #[.int .i64 (N), .slice A49 (((0 + k) + 1) + (es.length - k)) (c49)]) rfl rfl (fun _ => by kernel_rfl)) rfl rfl rfl (by kernel_rfl) (by kernel_rfl) (by kernel_rfl) rfl ?_
      refine wg_one (i := 12) (by kernel_rfl) ?_
      refine go_late0 rfl rfl rfl rfl (or_store_blk (vs := [.int .i64 (N), .slice A49 (((0 + k) + 1) + (es.length - k)) (c49)]) (cs' := [.int .i64 (N), .slice A49 (((0 + k) + 1) + (es.length - k)) (c49)]) (.tail (.tail (.tail .head))) tI25 rfl rfl rfl rfl (Nat.le_of_ble_eq_true rfl) rfl) (kn0 ?_)
      refine wa_done (by kernel_rfl) ?_
      refine ce_then ?_
      refine cw_ret ?_
      refine ce_results (v := .agg #[.int .i64 (N), .slice A49 (((0 + k) + 1) + (es.length - k)) (c49)]) (res1 rfl (rv_c rfl tI25 rfl (List.Mem.head _))) (fun w' hw => ?_)
      exact ⟨A49, c49, (by rw [insE_length]; omega), (by rw [insE_length, show ((0 + k) + 1) + (es.length - k) = es.length + 1 from by omega]), ((.consE (show row 65 2 A49 (((0 + k) + 1) + (es.length - k)) (c49) (cells fE (((([]) ++ (es.take k)) ++ ([(min a b, max a b)])) ++ (es.drop k))) = row 65 2 A49 ((insE es (edg a b)).length) (c49) (cells fE (insE es (edg a b))) by rw [← insE_at (k := k) (by omega) hk2 hend]; exact row_eq (by simp only [List.length_append, List.length_take, List.length_drop, List.length_cons, List.length_nil]; omega) rfl) (.tail .head) (.nil) : Keep _ _).ss hw).to_new⟩
  ·
    have hend : es.length ≤ k ∨ ¬ below (es.getD k (0, 0)) (edg a b) := .inl (by omega)
    refine wg_takep (i := 5) rfl (ov_move rfl) rfl rfl rfl (by kernel_rfl) (by kernel_rfl) (by kernel_rfl) rfl ?_
    refine wg_take_not (i := 6) rfl rfl rfl rfl rfl (by kernel_rfl) (by kernel_rfl) (by kernel_rfl) (by kernel_rfl) ?_
    refine wg_take_not (i := 7) rfl rfl rfl rfl rfl (by kernel_rfl) (by kernel_rfl) (by kernel_rfl) (by kernel_rfl) ?_
    refine wg_take_not (i := 8) rfl rfl rfl rfl rfl (by kernel_rfl) (by kernel_rfl) (by kernel_rfl) (by kernel_rfl) ?_
    refine wg_take_not (i := 9) rfl rfl rfl rfl rfl (by kernel_rfl) (by kernel_rfl) (by kernel_rfl) (by kernel_rfl) ?_
    refine wg_take_not (i := 10) rfl rfl rfl rfl rfl (by kernel_rfl) (by kernel_rfl) (by kernel_rfl) (by kernel_rfl) ?_
    refine wg_take_not (i := 11) rfl rfl rfl rfl rfl (by kernel_rfl) (by kernel_rfl) (by kernel_rfl) (by kernel_rfl) ?_
    refine wg_take_not (i := 12) rfl rfl rfl rfl rfl (by kernel_rfl) (by kernel_rfl) (by kernel_rfl) (by kernel_rfl) ?_
    refine wg_takep (i := 13) rfl (ov_pick_f rfl rfl) rfl rfl rfl (by kernel_rfl) (by kernel_rfl) (by kernel_rfl) rfl ?_
    refine wg_done (by kernel_rfl) ?_
    refine ce_then ?_
    refine cw_false rfl ?_
    refine cw_exit ?_
    refine ce_then_exit ?_
    refine ce_then_exit ?_
    refine ce_hit ?_
    refine ce_then ?_
    refine cw_seq ?_
    refine cw_region ?_
    refine wl_r (or_buildSlice (e := 65) (size := 2) (is := []) (vs := []) (cs := cells fE ([])) rfl rfl rfl (by decide) (fun _ => by kernel_rfl)) rfl rfl (kt1 rfl (fun g33 => ?_))
    refine wl_v (ov_fieldAddr fI25_1 some_lit rfl) rfl rfl rfl ?_
    refine wl_v (ov_load tI23 (holds_blk (List.Mem.tail _ (List.Mem.tail _ (List.Mem.tail _ (List.Mem.head _))))) rfl rfl) rfl rfl rfl ?_
    refine wl_v (ov_move rfl) rfl rfl rfl ?_
    refine wl_v (ov_slice_h (h := k) sI23 tI65 rfl rfl (by omega)) rfl rfl rfl ?_
    refine wl_r (or_append (c2 := c) sI23 tI65 rfl (by decide) rfl rfl (.head) (holds_takeC (k := k) fE_len (holds_old oA)) ((by rw [cells_length fE_len, List.length_take]; omega)) (one_cells fE_one _) cells_append (by omega) (by omega)) rfl rfl (kt2p rfl (fun A38 c38 h38 => ?_))
    refine wl_v (ov_assign rfl) rfl rfl rfl ?_
    refine wl_nil ?_
    refine ce_then ?_
    refine cw_seq ?_
    refine cw_draw mixO [12] (.cons (.tail .head) (.cons (.tail .head) (.cons (.tail .head) (.nil)))) rfl ?_
    refine wg_take (i := 0) rfl (ov_fieldAddr fI25_0 some_lit rfl) rfl rfl rfl (by kernel_rfl) (by kernel_rfl) (by kernel_rfl) (by kernel_rfl) ?_
    refine wg_take (i := 1) rfl (ov_load tI3 (holds_blk (List.Mem.tail _ (List.Mem.tail _ (List.Mem.head _)))) rfl rfl) rfl rfl rfl (by kernel_rfl) (by kernel_rfl) (by kernel_rfl) (by kernel_rfl) ?_
    refine wg_takep (i := 2) rfl (ov_move rfl) rfl rfl rfl (by kernel_rfl) (by kernel_rfl) (by kernel_rfl) rfl ?_
    refine wg_take (i := 3) rfl (ov_loadAgg (vs := [.int .i64 (min a b), .int .i64 (max a b)]) tI65 (holds_blk (List.Mem.head _)) rfl some_lit rfl rfl) rfl rfl rfl (by kernel_rfl) (by kernel_rfl) (by kernel_rfl) (by kernel_rfl) ?_
    refine wg_take (i := 6) rfl (ov_fieldAddr fI25_1 some_lit rfl) rfl rfl rfl (by kernel_rfl) (by kernel_rfl) (by kernel_rfl) (by kernel_rfl) ?_
    refine wg_take (i := 7) rfl (ov_load tI23 (holds_blk (List.Mem.tail _ (List.Mem.tail _ (List.Mem.head _)))) rfl rfl) rfl rfl rfl (by kernel_rfl) (by kernel_rfl) (by kernel_rfl) (by kernel_rfl) ?_
    refine wg_takep (i := 8) rfl (ov_move rfl) rfl rfl rfl (by kernel_rfl) (by kernel_rfl) (by kernel_rfl) rfl ?_
    refine wg_takep (i := 9) rfl (ov_slice_l (l := k) sI23 tI65 rfl rfl (by omega)) rfl rfl rfl (by kernel_rfl) (by kernel_rfl) (by kernel_rfl) rfl ?_
    refine wg_one (i := 4) (by kernel_rfl) ?_
    refine go_r rfl rfl rfl rfl (or_buildSlice (e := 65) (size := 2) (is := [0]) (vs := [.agg #[.int .i64 (min a b), .int .i64 (max a b)]]) (cs := cells fE ([(min a b, max a b)])) rfl rfl rfl (by decide) (fun _ => by kernel_rfl)) (kt1 rfl (fun g43 => ?_))
    refine gk (.cons (.tail (.tail .head)) (.cons (.tail (.tail .head)) (.cons (.tail (.tail .head)) (.nil)))) ?_
    refine wg_one (i := 5) (by kernel_rfl) ?_
    refine go_r rfl rfl rfl rfl (or_append (c2 := 1) sI23 tI65 rfl (by decide) rfl rfl (.tail .head) (holds_row (List.Mem.head _)) (by rw [cells_length fE_len]; try simp) (one_cells fE_one _) cells_append (by omega) (by omega)) (kt2p rfl (fun A44 c44 h44 => ?_))
    refine gk (.cons (.tail (.tail .head)) (.cons (.tail (.tail .head)) (.cons (.tail (.tail .head)) (.nil)))) ?_
    refine wg_one (i := 10) (by kernel_rfl) ?_
    refine go_r rfl rfl rfl rfl (or_append (c2 := c - k) sI23 tI65 rfl (by decide) rfl rfl (.head) (holds_dropC (l := k) fE_len (holds_old oA) (by first | exact lA | omega)) ((by rw [cells_length fE_len, List.length_drop])) (one_cells fE_one _) cells_append (by omega) (by omega)) (kt2p rfl (fun A49 c49 h49 => ?_))
    refine gk (.cons (.tail (.tail .head)) (.cons (.tail (.tail .head)) (.cons (.tail (.tail .head)) (.nil)))) ?_
    refine wg_takep (i := 11) rfl (ov_build (is := [0, 1]) (vs := [.int .i64 (N), .slice A49 (((0 + k) + 1) + (es.length - k)) (c49)]) (v := .agg #[.int .i64 (N), .slice A49 (((0 + k) + 1) + (es.length - k)) (c49)]) rfl rfl (fun _ => by kernel_rfl)) rfl rfl rfl (by kernel_rfl) (by kernel_rfl) (by kernel_rfl) rfl ?_
    refine wg_one (i := 12) (by kernel_rfl) ?_
    refine go_late0 rfl rfl rfl rfl (or_store_blk (vs := [.int .i64 (N), .slice A49 (((0 + k) + 1) + (es.length - k)) (c49)]) (cs' := [.int .i64 (N), .slice A49 (((0 + k) + 1) + (es.length - k)) (c49)]) (.tail (.tail (.tail .head))) tI25 rfl rfl rfl rfl (Nat.le_of_ble_eq_true rfl) rfl) (kn0 ?_)
    refine wa_done (by kernel_rfl) ?_
    refine ce_then ?_
    refine cw_ret ?_
    refine ce_results (v := .agg #[.int .i64 (N), .slice A49 (((0 + k) + 1) + (es.length - k)) (c49)]) (res1 rfl (rv_c rfl tI25 rfl (List.Mem.head _))) (fun w' hw => ?_)
    exact ⟨A49, c49, (by rw [insE_length]; omega), (by rw [insE_length, show ((0 + k) + 1) + (es.length - k) = es.length + 1 from by omega]), ((.consE (show row 65 2 A49 (((0 + k) + 1) + (es.length - k)) (c49) (cells fE (((([]) ++ (es.take k)) ++ ([(min a b, max a b)])) ++ (es.drop k))) = row 65 2 A49 ((insE es (edg a b)).length) (c49) (cells fE (insE es (edg a b))) by rw [← insE_at (k := k) (by omega) hk2 hend]; exact row_eq (by simp only [List.length_append, List.length_take, List.length_drop, List.length_cons, List.length_nil]; omega) rfl) (.tail .head) (.nil) : Keep _ _).ss hw).to_new⟩
set_option maxRecDepth 100000 in
theorem sortE_c (w : World) (w0 : World) (Bd : Nat) (F : List Ent) (A : Option Addr) (n : Nat) (c : Nat) (cv : Nat) (xs : List (Int × Int)) (eA : xs.length = n) (lA : n ≤ cv) (hs : n ≤ 1000000) (hok : ∀ e ∈ xs, 0 ≤ e.1 ∧ e.1 ≤ 1000 ∧ 0 ≤ e.2 ∧ e.2 ≤ 1000) (hss : SS w0 Bd ((row 65 2 A (n) (c) (cells fE xs)) :: F) w) : Calls Try.prog 97 #[.slice A (n) (cv), .func (.func 42) #[] #[]] w (Ret fun rv w' => rv = undef ∧ SS w0 Bd ((row 65 2 A (n) (c) (cells fE (srtE xs))) :: F) w') :=
  (Go.Sx.sortV_row Sf.sortEC fE_len w w0 Bd F 65 A n c cv xs eA hok (by omega) (by decide) hss).mono fun en w' ⟨rv, he, ys, ⟨hy, hl⟩, hrv, hs2⟩ => ⟨rv, he, hrv, by subst hy; exact hs2⟩
set_option maxRecDepth 100000 in
theorem made_c (w : World) (N : Int) (A : Option Addr) (n : Nat) (c : Nat) (es : List (Int × Int)) (hA : At w A (cells fE es)) (eA : es.length = n) (lA : n ≤ c) (hs : es.length ≤ 1000) (hok : ∀ e ∈ es, 0 ≤ e.1 ∧ e.1 ≤ 1000 ∧ 0 ≤ e.2 ∧ e.2 ≤ 1000) : Calls Try.prog 62 #[.int .i64 (N), .slice A (n) (c)] w (Ret fun rv w' => ∃ A2 k2 c2, ((srtE es).length ≤ k2) ∧ rv = .agg #[.int .i64 (N), .slice A2 ((srtE es).length) (k2)] ∧ New w w' [row 65 2 A2 ((srtE es).length) (c2) (cells fE (srtE es))]) := by
  have oA := hA.atB
  subst eA
  refine fn_enter (args := [.int .i64 (N), .slice A (es.length) (c)]) Try.func62 rfl Try.ntmps62 rfl (SS.start w) ?_
  refine cw_seq ?_
  refine cw_region ?_
  refine wl_r (or_alloc tI25 rfl) rfl rfl (kt1 rfl (fun g4 => ?_))
  refine wl_nil ?_
  refine ce_then ?_
  refine cw_seq ?_
  refine cw_region ?_
  refine wl_v (ov_move rfl) rfl rfl rfl ?_
  refine wl_r (or_call (fv := []) (vs := [.slice A (es.length) (c)]) (cs := []) en49 rfl rfl (call_x2 (fun w hw => cloneCE_c w A es.length c es ((holds_old oA) w hw) rfl lA (by first | assumption | omega | (simp; omega))))) rfl rfl (kt2p rfl (fun A2_7 c2_7 h_7 => ?_))
  refine wl_v (ov_assign rfl) rfl rfl rfl ?_
  refine wl_nil ?_
  refine ce_then ?_
  refine cw_seq ?_
  refine cw_region ?_
  refine wl_v (ov_move rfl) rfl rfl rfl ?_
  refine wl_r (or_call (fv := []) (vs := [.slice A2_7 (es.length) (es.length), .func (.func 42) #[] #[]]) (cs := []) en97 rfl rfl (call_m (.head) (fun w hw => sortE_c w _ _ _ A2_7 es.length c2_7 es.length es rfl (Nat.le_refl _) (by first | assumption | omega | (simp; omega)) (by first | assumption | omega | (simp; omega)) hw))) rfl rfl (kt0 rfl ?_)
  refine wl_nil ?_
  refine ce_then ?_
  refine cw_seq ?_
  refine cw_region ?_
  refine wl_v (ov_move rfl) rfl rfl rfl ?_
  refine wl_v (ov_move rfl) rfl rfl rfl ?_
  refine wl_v (ov_build (is := [0, 1]) (vs := [.int .i64 (N), .slice A2_7 (es.length) (es.length)]) (v := .agg #[.int .i64 (N), .slice A2_7 (es.length) (es.length)]) rfl rfl (fun _ => by kernel_rfl)) rfl rfl rfl ?_
  refine wl_r0 (or_store_blk (vs := [.int .i64 (N), .slice A2_7 (es.length) (es.length)]) (cs' := [.int .i64 (N), .slice A2_7 (es.length) (es.length)]) (.tail .head) tI25 rfl rfl rfl rfl (Nat.le_of_ble_eq_true rfl) rfl) rfl rfl (kn0 ?_)
  refine wl_nil ?_
  refine ce_then ?_
  refine cw_ret ?_
  refine ce_results (v := .agg #[.int .i64 (N), .slice A2_7 (es.length) (es.length)]) (res1 rfl (rv_c rfl tI25 rfl (List.Mem.head _))) (fun w' hw => ?_)
  exact ⟨A2_7, es.length, c2_7, (by rw [srtE_length]; omega), (by rw [srtE_length]), ((.consE (show row 65 2 A2_7 (es.length) (c2_7) (cells fE (srtE es)) = row 65 2 A2_7 ((srtE es).length) (c2_7) (cells fE (srtE es)) by rw [srtE_length]) (.tail .head) (.nil) : Keep _ _).ss hw).to_new⟩
end Go.Proofs.Ytkkllkkjdbpjpaa.W44
