/- Walks of functions of the given program: each returns what its Lean function says and leaves the memory that was there as it was. Conditions: those of each theorem. -/
import Derived.Test.YtkkllkkjdbpjpaaSm
import Derived.Test.YtkkllkkjdbpjpaaProg
import Derived.Test.YtkkllkkjdbpjpaaPl
import Derived.Test.YtkkllkkjdbpjpaaPo
import Derived.Test.YtkkllkkjdbpjpaaPd
import Derived.Test.YtkkllkkjdbpjpaaPe
import Derived.Test.YtkkllkkjdbpjpaaPh
import Derived.Test.YtkkllkkjdbpjpaaPm
import Derived.Test.YtkkllkkjdbpjpaaPc
import Derived.Test.YtkkllkkjdbpjpaaPs
import Derived.Test.YtkkllkkjdbpjpaaPt
import Derived.Test.YtkkllkkjdbpjpaaPu
import Derived.Test.YtkkllkkjdbpjpaaPv
import Derived.Test.YtkkllkkjdbpjpaaPw
import Derived.Test.YtkkllkkjdbpjpaaPx
import Derived.Test.YtkkllkkjdbpjpaaPy
import Derived.Test.YtkkllkkjdbpjpaaPz
import Derived.Test.YtkkllkkjdbpjpaaPr
import Derived.Test.YtkkllkkjdbpjpaaPa
import Derived.Test.YtkkllkkjdbpjpaaPn
import Derived.Test.YtkkllkkjdbpjpaaPj
import Derived.Test.YtkkllkkjdbpjpaaPq
import Derived.Test.YtkkllkkjdbpjpaaSp
import Derived.Test.YtkkllkkjdbpjpaaPp
import Derived.Test.YtkkllkkjdbpjpaaSs
import Derived.Test.YtkkllkkjdbpjpaaSr
import Derived.Test.YtkkllkkjdbpjpaaPb
import Derived.Test.YtkkllkkjdbpjpaaSe
import Derived.Test.YtkkllkkjdbpjpaaSf
import Derived.Test.YtkkllkkjdbpjpaaT
import Derived.KernelRfl
namespace Go.Proofs.Ytkkllkkjdbpjpaa.W44
open Go.Sx Go.RowKit Go.Proofs.Ytkkllkkjdbpjpaa.T
open Go.Plain
set_option linter.unusedVariables false
set_option maxRecDepth 100000 in
theorem dropEdgeX_c (w : World) (N : Int) (A : Option Addr) (n : Nat) (c : Nat) (es : List (Int × Int)) (a : Int) (b : Int) (hA : At w A (cells fE es)) (eA : es.length = n) (lA : n ≤ c) (hs : es.length ≤ 1000) : Calls Try.prog 88 #[.agg #[.int .i64 (N), .slice A (n) (c)], .int .i64 (a), .int .i64 (b)] w (Ret fun rv w' => ∃ A2 c2, ((delE es a b).length ≤ c2) ∧ rv = .agg #[.int .i64 (N), .slice A2 ((delE es a b).length) (c2)] ∧ New w w' [row 65 2 A2 ((delE es a b).length) (c2) (cells fE (delE es a b))]) := by
  have oA := hA.atB
  subst eA
  refine fn_enter (args := [.agg #[.int .i64 (N), .slice A (es.length) (c)], .int .i64 (a), .int .i64 (b)]) Try.func88 rfl Try.ntmps88 rfl (SS.start w) ?_
  refine cw_seq ?_
  refine cw_region ?_
  refine wl_r (or_box rfl rfl) rfl rfl (kt1 rfl (fun g3 => ?_))
  refine wl_r (or_alloc tI25 rfl) rfl rfl (kt1 rfl (fun g6 => ?_))
  refine wl_nil ?_
  refine ce_then ?_
  refine cw_seq ?_
  refine cw_region ?_
  refine wl_v (ov_fieldAddr fI25_0 some_lit rfl) rfl rfl rfl ?_
  refine wl_v (ov_load tI3 (holds_blk (List.Mem.tail _ (List.Mem.head _))) rfl rfl) rfl rfl rfl ?_
  refine wl_r (or_buildSlice (e := 65) (size := 2) (is := []) (vs := []) (cs := cells fE ([])) rfl rfl rfl (by decide) (fun _ => by kernel_rfl)) rfl rfl (kt1 rfl (fun g12 => ?_))
  refine wl_v (ov_build (is := [0, 1]) (vs := [.int .i64 (N), .slice (some ⟨g12, 0, none⟩) (0) (0)]) (v := .agg #[.int .i64 (N), .slice (some ⟨g12, 0, none⟩) (0) (0)]) rfl rfl (fun _ => by kernel_rfl)) rfl rfl rfl ?_
  refine wl_r (or_alloc tI25 rfl) rfl rfl (kt1 rfl (fun g7 => ?_))
  refine wl_r0 (or_store_blk (vs := [.int .i64 (N), .slice (some ⟨g12, 0, none⟩) (0) (0)]) (cs' := [.int .i64 (N), .slice (some ⟨g12, 0, none⟩) (0) (0)]) (.head) tI25 rfl rfl rfl rfl (Nat.le_of_ble_eq_true rfl) rfl) rfl rfl (kn0 ?_)
  refine wl_nil ?_
  refine ce_then ?_
  refine cw_seq ?_
  refine cw_seq ?_
  refine cw_region ?_
  refine wl_v (ov_assign rfl) rfl rfl rfl ?_
  refine wl_nil ?_
  refine ce_then ?_
  refine cw_block ?_
  refine cw_loop3 (fun (k : Nat) (A3 : Option Addr) (c3 : Nat) => [(1, .int .i64 (a)), (2, .int .i64 (b)), (3, elp (some ⟨g3, 0, none⟩) (0)), (6, elp (some ⟨g6, 0, none⟩) (0)), (7, elp (some ⟨g7, 0, none⟩) (0)), (8, .int .i64 (((k : Nat) : Int)))]) (fun (k : Nat) (A3 : Option Addr) (c3 : Nat) => [blk g7 [.int .i64 (N), .slice A3 ((delE (es.take k) a b).length) (c3)] 25, row 65 2 A3 ((delE (es.take k) a b).length) (c3) (cells fE (delE (es.take k) a b)), blk g6 [.int .i64 (0), .slice none (0) (0)] 25, blk g3 [.int .i64 (N), .slice A (es.length) (c)] 25]) (fun (k : Nat) (A3 : Option Addr) (c3 : Nat) => k ≤ es.length ∧ (delE (es.take k) a b).length ≤ c3) (fun (k : Nat) (A3 : Option Addr) (c3 : Nat) => es.length - k) 0 (some ⟨g12, 0, none⟩) 0 ⟨by omega, Nat.le_refl _⟩ (.cons rfl (.cons rfl (.cons rfl (.cons rfl (.cons rfl (.cons (congrArg (fun z => some (Value.int .i64 z)) (show 0 = ((0 : Nat) : Int) by first | omega | rfl | (simp; done))) (.nil))))))) (.consE (show blk g7 [.int .i64 (N), .slice (some ⟨g12, 0, none⟩) (0) (0)] 25 = blk g7 [.int .i64 (N), .slice (some ⟨g12, 0, none⟩) ((delE (es.take 0) a b).length) (0)] 25 by rfl) (.head) (.consE (show row 65 2 (some ⟨g12, 0, none⟩) (0) (0) (cells fE ([])) = row 65 2 (some ⟨g12, 0, none⟩) ((delE (es.take 0) a b).length) (0) (cells fE (delE (es.take 0) a b)) by rfl) (.head) (.cons (.head) (.cons (.head) (.nil))))) ?_
  intro R0 k A3 c3 hk hR0
  obtain ⟨hk1, hk2⟩ := hk
  have hdl := delE_le (es.take k) a b
  have hdt : (es.take k).length ≤ es.length := by rw [List.length_take]; omega
  refine cw_seq ?_
  refine cw_seq ?_
  refine cw_region ?_
  refine wl_v (ov_move rfl) rfl rfl rfl ?_
  refine wl_v (ov_fieldAddr fI25_1 some_lit rfl) rfl rfl rfl ?_
  refine wl_v (ov_load tI23 (holds_blk (List.Mem.tail _ (List.Mem.tail _ (List.Mem.tail _ (List.Mem.head _))))) rfl rfl) rfl rfl rfl ?_
  refine wl_v (ov_len (sliceI_spec sI23) rfl) rfl rfl rfl ?_
  refine wl_if (ov_lss rfl rfl) rfl rfl rfl (fun c18 => ?_) (fun c18 => ?_)
  ·
    refine wl_nil ?_
    refine ce_then ?_
    refine cw_true rfl ?_
    refine cw_skip ?_
    refine ce_then ?_
    refine cw_seq ?_
    refine cw_block ?_
    refine cw_seq ?_
    refine cw_region ?_
    refine wl_v (ov_fieldAddr fI25_1 some_lit rfl) rfl rfl rfl ?_
    refine wl_v (ov_load tI23 (holds_blk (List.Mem.tail _ (List.Mem.tail _ (List.Mem.tail _ (List.Mem.head _))))) rfl rfl) rfl rfl rfl ?_
    refine wl_v (ov_move rfl) rfl rfl rfl ?_
    refine wl_v (ov_index (k := k) (c := c) sI23 tI65 rfl rfl (some_holds (q := k * 2) (holds_old oA) (by rw [cells_length fE_len]; have hlt : k < es.length := (by omega); omega)) (show k < es.length from (by omega))) rfl rfl rfl ?_
    refine wl_v (ov_loadAgg (vs := [.int .i64 ((es.getD k (0, 0)).1), .int .i64 ((es.getD k (0, 0)).2)]) tI65 (holds_old oA) rfl (some_holds (q := k * 2) (holds_old oA) (by rw [cells_length fE_len]; have hlt : k < es.length := (by omega); omega)) (cells_elem fE_len (0, 0) (show k < es.length from (by omega))) rfl) rfl rfl rfl ?_
    refine wl_r (or_alloc tI65 rfl) rfl rfl (kt1 rfl (fun g9 => ?_))
    refine wl_r0 (or_store_blk (vs := [.int .i64 ((es.getD k (0, 0)).1), .int .i64 ((es.getD k (0, 0)).2)]) (cs' := [.int .i64 ((es.getD k (0, 0)).1), .int .i64 ((es.getD k (0, 0)).2)]) (.head) tI65 rfl rfl rfl rfl (Nat.le_of_ble_eq_true rfl) rfl) rfl rfl (kn0 ?_)
    refine wl_nil ?_
    refine ce_then ?_
    refine cw_seq ?_
    refine cw_region ?_
    refine wl_v (ov_fieldAddr fI65_0 some_lit rfl) rfl rfl rfl ?_
    refine wl_v (ov_load tI3 (holds_blk (List.Mem.head _)) rfl rfl) rfl rfl rfl ?_
    refine wl_v (ov_move rfl) rfl rfl rfl ?_
    refine wl_v (ov_move rfl) rfl rfl rfl ?_
    refine wl_v (ov_min (r := min a b) rfl rfl (by first | omega | (split <;> omega))) rfl rfl rfl ?_
    refine wl_if (ov_neq rfl rfl) rfl rfl rfl (fun c31 => ?_) (fun c31 => ?_)
    ·
      refine wl_v (ov_move rfl) rfl rfl rfl ?_
      refine wl_not rfl rfl rfl rfl rfl rfl ?_
      refine wl_not rfl rfl rfl rfl rfl rfl ?_
      refine wl_not rfl rfl rfl rfl rfl rfl ?_
      refine wl_not rfl rfl rfl rfl rfl rfl ?_
      refine wl_not rfl rfl rfl rfl rfl rfl ?_
      refine wl_not rfl rfl rfl rfl rfl rfl ?_
      refine wl_v (ov_pick_t rfl rfl) rfl rfl rfl ?_
      refine wl_nil ?_
      refine ce_then ?_
      refine cw_true rfl ?_
      refine cw_region ?_
      refine wl_v (ov_fieldAddr fI25_1 some_lit rfl) rfl rfl rfl ?_
      refine wl_v (ov_load tI23 (holds_blk (List.Mem.tail _ (List.Mem.head _))) rfl rfl) rfl rfl rfl ?_
      refine wl_v (ov_loadAgg (vs := [.int .i64 ((es.getD k (0, 0)).1), .int .i64 ((es.getD k (0, 0)).2)]) tI65 (holds_blk (List.Mem.head _)) rfl some_lit rfl rfl) rfl rfl rfl ?_
      refine wl_r (or_buildSlice (e := 65) (size := 2) (is := [0]) (vs := [.agg #[.int .i64 ((es.getD k (0, 0)).1), .int .i64 ((es.getD k (0, 0)).2)]]) (cs := cells fE ([((es.getD k (0, 0)).1, (es.getD k (0, 0)).2)])) rfl rfl rfl (by decide) (fun _ => by kernel_rfl)) rfl rfl (kt1 rfl (fun g43 => ?_))
      refine wl_r (or_append (c2 := 1) sI23 tI65 rfl (by decide) rfl rfl (.tail (.tail (.tail .head))) (holds_row (List.Mem.head _)) (by rw [cells_length fE_len]; try simp) (one_cells fE_one _) cells_append (by omega) (by omega)) rfl rfl (kt2p rfl (fun A44 c44 h44 => ?_))
      refine wl_v (ov_fieldAddr fI25_1 some_lit rfl) rfl rfl rfl ?_
      refine wl_r0 (or_store_blk (vs := [.slice A44 (((delE (es.take k) a b).length) + 1) (c44)]) (cs' := [.int .i64 (N), .slice A44 (((delE (es.take k) a b).length) + 1) (c44)]) (.tail (.tail (.tail .head))) tI23 rfl rfl rfl rfl (Nat.le_of_ble_eq_true rfl) rfl) rfl rfl (kn0 ?_)
      refine wl_nil ?_
      refine ce_block ?_
      refine ce_then ?_
      refine cw_region ?_
      refine wl_v (ov_move rfl) rfl rfl rfl ?_
      refine wl_v (ov_add (r := ((k + 1 : Nat) : Int)) rfl rfl rfl (by omega)) rfl rfl rfl ?_
      refine wl_v (ov_assign rfl) rfl rfl rfl ?_
      refine wl_nil ?_
      exact fun ac_ w_ hs_ => hR0 (k + 1) A44 c44 ⟨by omega, by rw [del_keepE (by omega) (.inl c31), List.length_append]; exact h44⟩ (by omega) ac_ w_ (hs_.weaken (.cons rfl (.cons rfl (.cons rfl (.cons rfl (.cons rfl (.cons rfl (.nil))))))) (.consE (show blk g7 [.int .i64 (N), .slice A44 (((delE (es.take k) a b).length) + 1) (c44)] 25 = blk g7 [.int .i64 (N), .slice A44 ((delE (es.take (k + 1)) a b).length) (c44)] 25 by rw [del_keepE (by omega) (.inl c31), List.length_append]; rfl) (.head) (.consE (show row 65 2 A44 (((delE (es.take k) a b).length) + 1) (c44) (cells fE ((delE (es.take k) a b) ++ ([((es.getD k (0, 0)).1, (es.getD k (0, 0)).2)]))) = row 65 2 A44 ((delE (es.take (k + 1)) a b).length) (c44) (cells fE (delE (es.take (k + 1)) a b)) by rw [del_keepE (by omega) (.inl c31), List.length_append]; rfl) (.head) (.cons (.tail (.tail .head)) (.cons (.tail (.tail .head)) (.nil))))))
    ·
      refine wl_v (ov_move rfl) rfl rfl rfl ?_
      refine wl_go rfl rfl ?_
      refine wl_v (ov_fieldAddr fI65_1 some_lit rfl) rfl rfl rfl ?_
      refine wl_go rfl rfl ?_
      refine wl_v (ov_load tI3 (holds_blk (List.Mem.head _)) rfl rfl) rfl rfl rfl ?_
      refine wl_go rfl rfl ?_
      refine wl_v (ov_move rfl) rfl rfl rfl ?_
      refine wl_go rfl rfl ?_
      refine wl_v (ov_move rfl) rfl rfl rfl ?_
      refine wl_go rfl rfl ?_
      refine wl_v (ov_max (r := max a b) rfl rfl (by first | omega | (split <;> omega))) rfl rfl rfl ?_
      refine wl_go rfl rfl ?_
      refine wl_if (ov_neq rfl rfl) rfl rfl rfl (fun c38 => ?_) (fun c38 => ?_)
      ·
        refine wl_v (ov_pick_f rfl rfl) rfl rfl rfl ?_
        refine wl_nil ?_
        refine ce_then ?_
        refine cw_true rfl ?_
        refine cw_region ?_
        refine wl_v (ov_fieldAddr fI25_1 some_lit rfl) rfl rfl rfl ?_
        refine wl_v (ov_load tI23 (holds_blk (List.Mem.tail _ (List.Mem.head _))) rfl rfl) rfl rfl rfl ?_
        refine wl_v (ov_loadAgg (vs := [.int .i64 ((es.getD k (0, 0)).1), .int .i64 ((es.getD k (0, 0)).2)]) tI65 (holds_blk (List.Mem.head _)) rfl some_lit rfl rfl) rfl rfl rfl ?_
        refine wl_r (or_buildSlice (e := 65) (size := 2) (is := [0]) (vs := [.agg #[.int .i64 ((es.getD k (0, 0)).1), .int .i64 ((es.getD k (0, 0)).2)]]) (cs := cells fE ([((es.getD k (0, 0)).1, (es.getD k (0, 0)).2)])) rfl rfl rfl (by decide) (fun _ => by kernel_rfl)) rfl rfl (kt1 rfl (fun g43 => ?_))
        refine wl_r (or_append (c2 := 1) sI23 tI65 rfl (by decide) rfl rfl (.tail (.tail (.tail .head))) (holds_row (List.Mem.head _)) (by rw [cells_length fE_len]; try simp) (one_cells fE_one _) cells_append (by omega) (by omega)) rfl rfl (kt2p rfl (fun A44 c44 h44 => ?_))
        refine wl_v (ov_fieldAddr fI25_1 some_lit rfl) rfl rfl rfl ?_
        refine wl_r0 (or_store_blk (vs := [.slice A44 (((delE (es.take k) a b).length) + 1) (c44)]) (cs' := [.int .i64 (N), .slice A44 (((delE (es.take k) a b).length) + 1) (c44)]) (.tail (.tail (.tail .head))) tI23 rfl rfl rfl rfl (Nat.le_of_ble_eq_true rfl) rfl) rfl rfl (kn0 ?_)
        refine wl_nil ?_
        refine ce_block ?_
        refine ce_then ?_
        refine cw_region ?_
        refine wl_v (ov_move rfl) rfl rfl rfl ?_
        refine wl_v (ov_add (r := ((k + 1 : Nat) : Int)) rfl rfl rfl (by omega)) rfl rfl rfl ?_
        refine wl_v (ov_assign rfl) rfl rfl rfl ?_
        refine wl_nil ?_
        exact fun ac_ w_ hs_ => hR0 (k + 1) A44 c44 ⟨by omega, by rw [del_keepE (by omega) (.inr c38), List.length_append]; exact h44⟩ (by omega) ac_ w_ (hs_.weaken (.cons rfl (.cons rfl (.cons rfl (.cons rfl (.cons rfl (.cons rfl (.nil))))))) (.consE (show blk g7 [.int .i64 (N), .slice A44 (((delE (es.take k) a b).length) + 1) (c44)] 25 = blk g7 [.int .i64 (N), .slice A44 ((delE (es.take (k + 1)) a b).length) (c44)] 25 by rw [del_keepE (by omega) (.inr c38), List.length_append]; rfl) (.head) (.consE (show row 65 2 A44 (((delE (es.take k) a b).length) + 1) (c44) (cells fE ((delE (es.take k) a b) ++ ([((es.getD k (0, 0)).1, (es.getD k (0, 0)).2)]))) = row 65 2 A44 ((delE (es.take (k + 1)) a b).length) (c44) (cells fE (delE (es.take (k + 1)) a b)) by rw [del_keepE (by omega) (.inr c38), List.length_append]; rfl) (.head) (.cons (.tail (.tail .head)) (.cons (.tail (.tail .head)) (.nil))))))
      ·
        refine wl_v (ov_pick_f rfl rfl) rfl rfl rfl ?_
        refine wl_nil ?_
        refine ce_then ?_
        refine cw_false rfl ?_
        refine cw_skip ?_
        refine ce_block ?_
        refine ce_then ?_
        refine cw_region ?_
        refine wl_v (ov_move rfl) rfl rfl rfl ?_
        refine wl_v (ov_add (r := ((k + 1 : Nat) : Int)) rfl rfl rfl (by omega)) rfl rfl rfl ?_
        refine wl_v (ov_assign rfl) rfl rfl rfl ?_
        refine wl_nil ?_
        exact fun ac_ w_ hs_ => hR0 (k + 1) A3 c3 ⟨by omega, by rw [del_skipE (by omega) (by omega) (by omega)]; exact hk2⟩ (by omega) ac_ w_ (hs_.weaken (.cons rfl (.cons rfl (.cons rfl (.cons rfl (.cons rfl (.cons rfl (.nil))))))) (.consE (show blk g7 [.int .i64 (N), .slice A3 ((delE (es.take k) a b).length) (c3)] 25 = blk g7 [.int .i64 (N), .slice A3 ((delE (es.take (k + 1)) a b).length) (c3)] 25 by rw [del_skipE (by omega) (by omega) (by omega)]) (.tail .head) (.consE (show row 65 2 A3 ((delE (es.take k) a b).length) (c3) (cells fE (delE (es.take k) a b)) = row 65 2 A3 ((delE (es.take (k + 1)) a b).length) (c3) (cells fE (delE (es.take (k + 1)) a b)) by rw [del_skipE (by omega) (by omega) (by omega)]) (.tail .head) (.cons (.tail .head) (.cons (.tail .head) (.nil))))))
  ·
    refine wl_nil ?_
    refine ce_then ?_
    refine cw_false rfl ?_
    refine cw_exit ?_
    refine ce_then_exit ?_
    refine ce_then_exit ?_
    refine ce_hit ?_
    refine ce_then ?_
    refine cw_seq ?_
    refine cw_region ?_
    refine wl_v (ov_loadAgg (vs := [.int .i64 (N), .slice A3 ((delE (es.take k) a b).length) (c3)]) tI25 (holds_blk (List.Mem.head _)) rfl some_lit rfl rfl) rfl rfl rfl ?_
    refine wl_r0 (or_store_blk (vs := [.int .i64 (N), .slice A3 ((delE (es.take k) a b).length) (c3)]) (cs' := [.int .i64 (N), .slice A3 ((delE (es.take k) a b).length) (c3)]) (.tail (.tail .head)) tI25 rfl rfl rfl rfl (Nat.le_of_ble_eq_true rfl) rfl) rfl rfl (kn0 ?_)
    refine wl_nil ?_
    refine ce_then ?_
    refine cw_ret ?_
    refine ce_results (v := .agg #[.int .i64 (N), .slice A3 ((delE (es.take k) a b).length) (c3)]) (res1 rfl (rv_c rfl tI25 rfl (List.Mem.head _))) (fun w' hw => ?_)
    exact ⟨A3, c3, (by rw [show delE es a b = delE (es.take k) a b from (delE_all (by omega)).symm]; exact hk2), (by rw [show delE es a b = delE (es.take k) a b from (delE_all (by omega)).symm]), ((.consE (show row 65 2 A3 ((delE (es.take k) a b).length) (c3) (cells fE (delE (es.take k) a b)) = row 65 2 A3 ((delE es a b).length) (c3) (cells fE (delE es a b)) by rw [show delE es a b = delE (es.take k) a b from (delE_all (by omega)).symm]) (.tail (.tail .head)) (.nil) : Keep _ _).ss hw).to_new⟩
end Go.Proofs.Ytkkllkkjdbpjpaa.W44
