/- Walks of functions of the given program: each returns what its Lean function says and leaves the memory that was there as it was. Conditions: those of each theorem. -/
import Derived.Test.YtnnoggjcdhkfbaaSy
import Derived.Test.YtnnoggjcdhkfbaaProg
import Derived.Test.YtnnoggjcdhkfbaaPl
import Derived.Test.YtnnoggjcdhkfbaaPo
import Derived.Test.YtnnoggjcdhkfbaaT
import Derived.Test.YtnnoggjcdhkfbaaW1
import Derived.Test.YtnnoggjcdhkfbaaW2
import Derived.KernelRfl
namespace Go.Proofs.Ytnnoggjcdhkfbaa.W3
open Go.Sx Go.RowKit Go.Proofs.Ytnnoggjcdhkfbaa.T Go.Proofs.Ytnnoggjcdhkfbaa.W1 Go.Proofs.Ytnnoggjcdhkfbaa.W2
open Go.Plain
set_option maxRecDepth 100000 in
theorem greatest1_c (w : World) (a : Int) (b : Int) (g1 : Nat) (A : Option Addr) (n : Nat) (c : Nat) (xs : List Int) (hg1 : At w (some ⟨g1, 0, none⟩) [.slice A (n) (c)]) (hA : At w A (cells fI xs)) (eA : xs.length = n) (lA : n ≤ c) (hs : Small xs) (ha : 0 ≤ a ∧ a < n) (hb : 0 ≤ b ∧ b < n) : Calls Try.prog 90 #[.int .i64 (a), .int .i64 (b), elp (some ⟨g1, 0, none⟩) (0)] w (Ret fun rv w' => rv = .int .i64 (byDeg xs a b) ∧ New w w' []) := by
  have og1 := hg1.atB
  have oA := hA.atB
  have hx1 := hs.at_ (k := a.toNat) (by omega)
  have hx2 := hs.at_ (k := b.toNat) (by omega)
  refine fn_enter (args := [.int .i64 (a), .int .i64 (b), elp (some ⟨g1, 0, none⟩) (0)]) Try.func90 rfl Try.ntmps90 rfl (SS.start w) ?_
  refine cw_seq ?_
  refine cw_region ?_
  refine wl_v (ov_assign rfl) rfl rfl rfl ?_
  refine wl_nil ?_
  refine ce_then ?_
  refine cw_seq ?_
  refine cw_draw mixO [] (.nil) rfl ?_
  refine wg_take (i := 0) rfl (ov_load tI26 (holds_old og1) rfl rfl) rfl rfl rfl (by kernel_rfl) (by kernel_rfl) (by kernel_rfl) (by kernel_rfl) ?_
  refine wg_takep (i := 1) rfl (ov_move rfl) rfl rfl rfl (by kernel_rfl) (by kernel_rfl) (by kernel_rfl) rfl ?_
  refine wg_take (i := 2) rfl (ov_indexg sI26 tI3 rfl rfl (some_holds (q := b.toNat * 1) (holds_old oA) (by rw [cells_length fI_len]; have hlt : b.toNat < xs.length := (by first | omega | (simp only [List.length_set, List.length_append, List.length_take, List.length_drop, List.length_replicate, List.length_cons, List.length_nil]; omega)); omega)) (by omega) (show b.toNat < n from (by first | omega | (simp only [List.length_set, List.length_append, List.length_take, List.length_drop, List.length_replicate, List.length_cons, List.length_nil]; omega)))) rfl rfl rfl (by kernel_rfl) (by kernel_rfl) (by kernel_rfl) (by kernel_rfl) ?_
  refine wg_take (i := 3) rfl (ov_load tI3 (holds_old oA) rfl (get_fI (show b.toNat < xs.length from (by first | omega | (simp only [List.length_set, List.length_append, List.length_take, List.length_drop, List.length_replicate, List.length_cons, List.length_nil]; omega))))) rfl rfl rfl (by kernel_rfl) (by kernel_rfl) (by kernel_rfl) (by kernel_rfl) ?_
  refine wg_take (i := 4) rfl (ov_load tI26 (holds_old og1) rfl rfl) rfl rfl rfl (by kernel_rfl) (by kernel_rfl) (by kernel_rfl) (by kernel_rfl) ?_
  refine wg_takep (i := 5) rfl (ov_move rfl) rfl rfl rfl (by kernel_rfl) (by kernel_rfl) (by kernel_rfl) rfl ?_
  refine wg_take (i := 6) rfl (ov_indexg sI26 tI3 rfl rfl (some_holds (q := a.toNat * 1) (holds_old oA) (by rw [cells_length fI_len]; have hlt : a.toNat < xs.length := (by first | omega | (simp only [List.length_set, List.length_append, List.length_take, List.length_drop, List.length_replicate, List.length_cons, List.length_nil]; omega)); omega)) (by omega) (show a.toNat < n from (by first | omega | (simp only [List.length_set, List.length_append, List.length_take, List.length_drop, List.length_replicate, List.length_cons, List.length_nil]; omega)))) rfl rfl rfl (by kernel_rfl) (by kernel_rfl) (by kernel_rfl) (by kernel_rfl) ?_
  refine wg_take (i := 7) rfl (ov_load tI3 (holds_old oA) rfl (get_fI (show a.toNat < xs.length from (by first | omega | (simp only [List.length_set, List.length_append, List.length_take, List.length_drop, List.length_replicate, List.length_cons, List.length_nil]; omega))))) rfl rfl rfl (by kernel_rfl) (by kernel_rfl) (by kernel_rfl) (by kernel_rfl) ?_
  refine wg_takep (i := 8) rfl (ov_sub (r := (xs.getD b.toNat 0) - (xs.getD a.toNat 0)) rfl rfl rfl (by omega)) rfl rfl rfl (by kernel_rfl) (by kernel_rfl) (by kernel_rfl) rfl ?_
  refine wg_takep (i := 9) rfl (ov_assign rfl) rfl rfl rfl (by kernel_rfl) (by kernel_rfl) (by kernel_rfl) rfl ?_
  refine wg_done (by kernel_rfl) ?_
  refine ce_then ?_
  refine cw_ret ?_
  refine ce_results (v := .int .i64 ((xs.getD b.toNat 0) - (xs.getD a.toNat 0))) (res1 rfl (rv_t rfl)) (fun w' hw => ?_)
  exact ⟨rfl, (Keep.nil.ss hw).to_new⟩
set_option maxRecDepth 100000 in
theorem greatestI_c (w : World) (A : Option Addr) (n : Nat) (c : Nat) (xs : List (Int)) (A1 : Option Addr) (n1 : Nat) (c1 : Nat) (ys : List (Int)) (m : Nat) (hA : At w A (cells fI xs)) (eA : xs.length = n) (lA : n ≤ c) (hA1 : At w A1 (cells fI ys)) (eA1 : ys.length = n1) (lA1 : n1 ≤ c1) (hs : Small xs) (hn : n1 ≤ 12) (hi : ∀ y ∈ ys, 0 ≤ y ∧ y < n) (hm : m ≤ n1) : Calls Try.prog 51 #[.slice A (n) (c), .slice A1 (n1) (c1), .int .i64 (((m : Nat) : Int))] w (Ret fun rv w' => ∃ A2 c2, (n1 ≤ c2) ∧ rv = .slice A2 (m) (n1) ∧ New w w' [row 3 1 A2 (n1) (c2) (cells fI (isort 0 (ltOf (byDeg xs)) ys))]) := by
  have oA := hA.atB
  subst eA
  have oA1 := hA1.atB
  subst eA1
  refine fn_enter (args := [.slice A (xs.length) (c), .slice A1 (ys.length) (c1), .int .i64 (((m : Nat) : Int))]) Try.func51 rfl Try.ntmps51 rfl (SS.start w) ?_
  refine cw_seq ?_
  refine cw_region ?_
  refine wl_r (or_box rfl rfl) rfl rfl (kt1 rfl (fun g3 => ?_))
  refine wl_v (ov_assign rfl) rfl rfl rfl ?_
  refine wl_nil ?_
  refine ce_then ?_
  refine cw_seq ?_
  refine cw_region ?_
  refine wl_v (ov_move rfl) rfl rfl rfl ?_
  refine wl_r (or_call (fv := []) (vs := [.slice A1 (ys.length) (c1)]) (cs := []) en50 rfl rfl (call_x2 (fun w hw => cloneC_c w A1 ys.length c1 ys ((holds_old oA1) w hw) rfl lA1 (by first | assumption | omega | (simp; omega))))) rfl rfl (kt2p rfl (fun A2_9 c2_9 h_9 => ?_))
  refine wl_v (ov_assign rfl) rfl rfl rfl ?_
  refine wl_nil ?_
  refine ce_then ?_
  refine cw_seq ?_
  refine cw_region ?_
  refine wl_v (ov_move rfl) rfl rfl rfl ?_
  refine wl_v (ov_makeFunc (vs := #[elp (some ⟨g3, 0, none⟩) (0)]) rfl) rfl rfl rfl ?_
  refine wl_r (or_call (fv := []) (vs := [.slice A2_9 (ys.length) (ys.length), .func (.func 90) #[] #[elp (some ⟨g3, 0, none⟩) (0)]]) (cs := []) en89 rfl rfl (call_m (.head) (fun w hw => sortStable_c w _ _ _ A2_9 ys.length c2_9 ys.length ys 90 ([elp (some ⟨g3, 0, none⟩) (0)]) (byDeg xs) rfl (Nat.le_refl _) (by first | assumption | omega | (simp; omega)) en90 (fun x hx y hy ys' w' hw' => greatest1_c w' x y g3 A xs.length c xs ((holds_blk (List.Mem.tail _ (List.Mem.head _))) w' hw') ((holds_old oA) w' hw') rfl lA hs (hi x hx) (hi y hy)) hw))) rfl rfl (kt0 rfl ?_)
  refine wl_nil ?_
  refine ce_then ?_
  refine cw_seq ?_
  refine cw_region ?_
  refine wl_v (ov_move rfl) rfl rfl rfl ?_
  refine wl_v (ov_move rfl) rfl rfl rfl ?_
  refine wl_v (ov_slice_h (h := m) sI26 tI3 rfl rfl hm) rfl rfl rfl ?_
  refine wl_v (ov_assign rfl) rfl rfl rfl ?_
  refine wl_nil ?_
  refine ce_then ?_
  refine cw_ret ?_
  refine ce_results (v := .slice A2_9 (m) (ys.length)) (res1 rfl (rv_t rfl)) (fun w' hw => ?_)
  exact ⟨A2_9, c2_9, h_9, rfl, ((.cons (.head) (.nil) : Keep _ _).ss hw).to_new⟩
set_option maxRecDepth 100000 in
theorem indices_c (w : World) (n : Nat) (but : Int) (hn : n ≤ 1000) : Calls Try.prog 52 #[.int .i64 (((n : Nat) : Int)), .int .i64 (but)] w (Ret fun rv w' => ∃ A2 c2, ((idx n but).length ≤ c2) ∧ rv = .slice A2 ((idx n but).length) (c2) ∧ New w w' [row 3 1 A2 ((idx n but).length) (c2) (cells fI (idx n but))]) := by
  refine fn_enter (args := [.int .i64 (((n : Nat) : Int)), .int .i64 (but)]) Try.func52 rfl Try.ntmps52 rfl (SS.start w) ?_
  refine cw_seq ?_
  refine cw_region ?_
  refine wl_v (ov_assign rfl) rfl rfl rfl ?_
  refine wl_nil ?_
  refine ce_then ?_
  refine cw_seq ?_
  refine cw_region ?_
  refine wl_v (ov_assign rfl) rfl rfl rfl ?_
  refine wl_nil ?_
  refine ce_then ?_
  refine cw_seq ?_
  refine cw_seq ?_
  refine ct_none fI 3 1 ?_
  refine cw_region ?_
  refine wl_v (ov_move rfl) rfl rfl rfl ?_
  refine wl_v (ov_move rfl) rfl rfl rfl ?_
  refine wl_nil ?_
  refine ce_then ?_
  refine cw_block ?_
  refine cw_loop3 (fun (k : Nat) (A : Option Addr) (c : Nat) => [(1, .int .i64 (but)), (4, .slice none (0) (0)), (7, .int .i64 (((n : Nat) : Int))), (5, .slice A ((idx k but).length) (c)), (8, .int .i64 (((k : Nat) : Int)))]) (fun (k : Nat) (A : Option Addr) (c : Nat) => [row 3 1 A ((idx k but).length) (c) (cells fI (idx k but))]) (fun (k : Nat) (A : Option Addr) (c : Nat) => k ≤ n ∧ (idx k but).length ≤ c) (fun (k : Nat) (A : Option Addr) (c : Nat) => n - k) 0 none 0 ⟨by omega, Nat.le_refl _⟩ (.cons rfl (.cons rfl (.cons rfl (.cons rfl (.cons (congrArg (fun z => some (Value.int .i64 z)) (show 0 = ((0 : Nat) : Int) by first | omega | rfl | (simp; done))) (.nil)))))) (.cons (.head) (.nil)) ?_
  intro R0 k A c hk hR0
  obtain ⟨hk1, hk2⟩ := hk
  have hl := idx_len k but
  refine cw_seq ?_
  refine cw_region ?_
  refine wl_if (ov_lss rfl rfl) rfl rfl rfl (fun c9 => ?_) (fun c9 => ?_)
  ·
    refine wl_nil ?_
    refine ce_then ?_
    refine cw_seq ?_
    refine cw_true rfl ?_
    refine cw_skip ?_
    refine ce_then ?_
    refine cw_seq ?_
    refine cw_block ?_
    refine cw_seq ?_
    refine cw_region ?_
    refine wl_v (ov_move rfl) rfl rfl rfl ?_
    refine wl_v (ov_assign rfl) rfl rfl rfl ?_
    refine wl_nil ?_
    refine ce_then ?_
    refine cw_seq ?_
    refine cw_region ?_
    refine wl_v (ov_move rfl) rfl rfl rfl ?_
    refine wl_v (ov_move rfl) rfl rfl rfl ?_
    refine wl_if (ov_neq rfl rfl) rfl rfl rfl (fun c13 => ?_) (fun c13 => ?_)
    ·
      refine wl_nil ?_
      refine ce_then ?_
      refine cw_true rfl ?_
      refine cw_region ?_
      refine wl_v (ov_move rfl) rfl rfl rfl ?_
      refine wl_v (ov_move rfl) rfl rfl rfl ?_
      refine wl_r (or_buildSlice (e := 3) (size := 1) (is := [0]) (vs := [.int .i64 (((k : Nat) : Int))]) (cs := cells fI ([((k : Nat) : Int)])) rfl rfl rfl (by decide) (fun _ => by kernel_rfl)) rfl rfl (kt1 rfl (fun g16 => ?_))
      refine wl_r (or_append (c2 := 1) sI26 tI3 rfl (by decide) rfl rfl (.tail .head) (holds_row (List.Mem.head _)) (by rw [cells_length fI_len]; try simp) (one_cells fI_one _) cells_append (by omega) (by omega)) rfl rfl (kt2p rfl (fun A17 c17 h17 => ?_))
      refine wl_v (ov_assign rfl) rfl rfl rfl ?_
      refine wl_nil ?_
      refine ce_block ?_
      refine ce_then ?_
      refine cw_region ?_
      refine wl_v (ov_add (r := ((k + 1 : Nat) : Int)) rfl rfl rfl (by omega)) rfl rfl rfl ?_
      refine wl_v (ov_move rfl) rfl rfl rfl ?_
      refine wl_nil ?_
      exact fun a w hs => hR0 (k + 1) A17 c17 ⟨by omega, by rw [idx_succ_ne c13]; simpa using h17⟩ (by omega) a w (hs.weaken (.cons rfl (.cons rfl (.cons rfl (.cons (congrArg (fun z => some (Value.slice A17 z c17)) (show (((idx k but).length) + 1) = ((idx (k + 1) but).length) from by rw [idx_succ_ne c13]; simp)) (.cons rfl (.nil)))))) (.consE (show row 3 1 A17 (((idx k but).length) + 1) (c17) (cells fI ((idx k but) ++ ([((k : Nat) : Int)]))) = row 3 1 A17 ((idx (k + 1) but).length) (c17) (cells fI (idx (k + 1) but)) by rw [idx_succ_ne c13]; simp) (.head) (.nil)))
    ·
      refine wl_nil ?_
      refine ce_then ?_
      refine cw_false rfl ?_
      refine cw_skip ?_
      refine ce_block ?_
      refine ce_then ?_
      refine cw_region ?_
      refine wl_v (ov_add (r := ((k + 1 : Nat) : Int)) rfl rfl rfl (by omega)) rfl rfl rfl ?_
      refine wl_v (ov_move rfl) rfl rfl rfl ?_
      refine wl_nil ?_
      exact fun a w hs => hR0 (k + 1) A c ⟨by omega, by rw [idx_succ_eq (by omega)]; exact hk2⟩ (by omega) a w (hs.weaken (.cons rfl (.cons rfl (.cons rfl (.cons (congrArg (fun z => some (Value.slice A z c)) (show ((idx k but).length) = ((idx (k + 1) but).length) from by rw [idx_succ_eq (by omega)])) (.cons rfl (.nil)))))) (.consE (show row 3 1 A ((idx k but).length) (c) (cells fI (idx k but)) = row 3 1 A ((idx (k + 1) but).length) (c) (cells fI (idx (k + 1) but)) by rw [idx_succ_eq (by omega)]) (.head) (.nil)))
  ·
    refine wl_nil ?_
    refine ce_then ?_
    refine cw_seq ?_
    refine cw_false rfl ?_
    refine cw_exit ?_
    refine ce_then_exit ?_
    refine ce_then_exit ?_
    refine ce_hit ?_
    refine ce_then ?_
    refine cw_seq ?_
    refine cw_region ?_
    refine wl_v (ov_move rfl) rfl rfl rfl ?_
    refine wl_v (ov_assign rfl) rfl rfl rfl ?_
    refine wl_nil ?_
    refine ce_then ?_
    refine cw_ret ?_
    refine ce_results (v := .slice A ((idx k but).length) (c)) (res1 rfl (rv_t rfl)) (fun w' hw => ?_)
    exact ⟨A, c, (by rw [show n = k from by omega]; exact hk2), (by rw [show n = k from by omega]), ((.consE (show row 3 1 A ((idx k but).length) (c) (cells fI (idx k but)) = row 3 1 A ((idx n but).length) (c) (cells fI (idx n but)) by rw [show n = k from by omega]) (.head) (.nil) : Keep _ _).ss hw).to_new⟩
set_option maxRecDepth 100000 in
theorem delete_c (w : World) (w0 : World) (Bd : Nat) (F : List Ent) (A : Option Addr) (n : Nat) (c : Nat) (cv : Nat) (xs : List (Int)) (i : Nat) (j : Nat) (eA : xs.length = n) (lA : n ≤ cv) (hij : j = i + 1 ∧ j ≤ n) (hs : n ≤ 1000) (hss : SS w0 Bd ((row 3 1 A (n) (c) (cells fI xs)) :: F) w) : Calls Try.prog 53 #[.slice A (n) (cv), .int .i64 (((i : Nat) : Int)), .int .i64 (((j : Nat) : Int))] w (Ret fun rv w' => rv = .slice A (n - 1) (cv) ∧ SS w0 Bd ((row 3 1 A (n) (c) (cells fI (del xs i))) :: F) w') := by
  subst eA
  obtain ⟨rfl, hj⟩ := hij
  refine fn_enter (args := [.slice A (xs.length) (cv), .int .i64 (((i : Nat) : Int)), .int .i64 ((((i + 1) : Nat) : Int))]) Try.func53 rfl Try.ntmps53 rfl hss ?_
  refine cw_seq ?_
  refine cw_region ?_
  refine wl_v (ov_assign rfl) rfl rfl rfl ?_
  refine wl_nil ?_
  refine ce_then ?_
  refine cw_seq ?_
  refine cw_region ?_
  refine wl_v (ov_move rfl) rfl rfl rfl ?_
  refine wl_v (ov_move rfl) rfl rfl rfl ?_
  refine wl_v (ov_move rfl) rfl rfl rfl ?_
  refine wl_v (ov_move rfl) rfl rfl rfl ?_
  refine wl_v (ov_len (sliceI_spec sI26) rfl) rfl rfl rfl ?_
  refine wl_v (ov_slice_lhm (l := i) (h := (i + 1)) (mx := xs.length) sI26 tI3 rfl rfl rfl rfl (by omega) (by omega) lA) rfl rfl rfl ?_
  refine wl_nil ?_
  refine ce_then ?_
  refine cw_seq ?_
  refine cw_seq ?_
  refine cw_region ?_
  refine wl_v (ov_move rfl) rfl rfl rfl ?_
  refine wl_v (ov_move rfl) rfl rfl rfl ?_
  refine wl_if (ov_eql rfl rfl) rfl rfl rfl (fun c16 => ?_) (fun c16 => ?_)
  ·
    exfalso; omega
  ·
    refine wl_nil ?_
    refine ce_then ?_
    refine cw_false rfl ?_
    refine cw_skip ?_
    refine ce_then ?_
    refine cw_seq ?_
    refine cw_region ?_
    refine wl_v (ov_move rfl) rfl rfl rfl ?_
    refine wl_v (ov_len (sliceI_spec sI26) rfl) rfl rfl rfl ?_
    refine wl_v (ov_assign rfl) rfl rfl rfl ?_
    refine wl_nil ?_
    refine ce_then ?_
    refine cw_seq ?_
    refine cw_draw mixO [6] (.cons (.head) (.refl)) rfl ?_
    refine wg_takep (i := 0) rfl (ov_move rfl) rfl rfl rfl (by kernel_rfl) (by kernel_rfl) (by kernel_rfl) rfl ?_
    refine wg_takep (i := 1) rfl (ov_move rfl) rfl rfl rfl (by kernel_rfl) (by kernel_rfl) (by kernel_rfl) rfl ?_
    refine wg_takep (i := 2) rfl (ov_slice_h (h := i) sI26 tI3 rfl rfl (by omega)) rfl rfl rfl (by kernel_rfl) (by kernel_rfl) (by kernel_rfl) rfl ?_
    refine wg_takep (i := 3) rfl (ov_move rfl) rfl rfl rfl (by kernel_rfl) (by kernel_rfl) (by kernel_rfl) rfl ?_
    refine wg_takep (i := 4) rfl (ov_move rfl) rfl rfl rfl (by kernel_rfl) (by kernel_rfl) (by kernel_rfl) rfl ?_
    refine wg_takep (i := 5) rfl (ov_slice_l (l := (i + 1)) sI26 tI3 rfl rfl (by omega)) rfl rfl rfl (by kernel_rfl) (by kernel_rfl) (by kernel_rfl) rfl ?_
    refine wg_one (i := 6) (by kernel_rfl) ?_
    refine stg_some (some_holds (q := 0) (holds_row (e := 3) (size := 1) (m := xs.length) (c := c) (cs := cells fI xs) (List.Mem.head _)) (by rw [cells_length fI_len]; omega)) (fun hso => ?_)
    refine go_late rfl rfl rfl rfl (or_append_self (n := xs.length) (c0 := c) (c2 := cv - (i + 1)) sI26 tI3 rfl rfl (.head) (holds_dropC (l := (i + 1)) fI_len (holds_row (List.Mem.head _)) lA) (by rw [cells_length fI_len]; simp) (one_cells fI_one _) hso (by omega) (by omega) ((cells_splices fI_len _ _ _).trans (congrArg (cells fI) (by simp only [List.length_drop]; rw [show i + (xs.length - (i + 1)) = xs.length - 1 from by omega])))) (kt0 rfl ?_)
    refine wa_r (i := 7) (by kernel_rfl) rfl rfl rfl (OpV.opR (ov_assign rfl)) (kt0 rfl ?_)
    refine wa_done (by kernel_rfl) ?_
    refine ce_then ?_
    refine cw_seq ?_
    refine cw_region ?_
    refine wl_v (ov_move rfl) rfl rfl rfl ?_
    refine wl_v (ov_move rfl) rfl rfl rfl ?_
    refine wl_v (ov_len (sliceI_spec sI26) rfl) rfl rfl rfl ?_
    refine wl_v (ov_move rfl) rfl rfl rfl ?_
    refine wl_v (ov_slice_lh (l := i + (xs.length - (i + 1))) (h := xs.length) sI26 tI3 rfl rfl rfl (by omega) (by omega)) rfl rfl rfl ?_
    refine wl_r0 (or_clear (f := fI) (z0 := 0) (i := i + (xs.length - (i + 1))) (k := xs.length - (i + (xs.length - (i + 1)))) (c := cv) sI26 tI3 rfl fI_len fI_one rfl (.head) (by omega) (by omega) hso ((cells_splices fI_len _ _ _).trans (congrArg (cells fI) (show _ = del xs i from (clear_last (by omega) (by omega) (by omega)))))) rfl rfl (kn0 ?_)
    refine wl_nil ?_
    refine ce_then ?_
    refine cw_seq ?_
    refine cw_region ?_
    refine wl_v (ov_move rfl) rfl rfl rfl ?_
    refine wl_v (ov_assign rfl) rfl rfl rfl ?_
    refine wl_nil ?_
    refine ce_then ?_
    refine cw_ret ?_
    refine ce_results (v := .slice A (i + (xs.length - (i + 1))) (cv)) (res1 rfl (rv_t rfl)) (fun w' hw => ?_)
    exact ⟨(by rw [show i + (xs.length - (i + 1)) = xs.length - 1 from by omega]), ((.cons (.head) (.refl) : Keep _ _).ss hw)⟩
set_option maxRecDepth 100000 in
theorem greatestS_c (w : World) (A : Option Addr) (n : Nat) (c : Nat) (xs : List (Int)) (v0 : Int) (m : Nat) (hA : At w A (cells fI xs)) (eA : xs.length = n) (lA : n ≤ c) (hs : Small xs) (hm : m ≤ 100) (hv : 0 ≤ v0) : Calls Try.prog 86 #[.slice A (n) (c), .int .i64 (v0), .int .i64 (((m : Nat) : Int))] w (Ret fun rv w' => ∃ A2 c2, (m ≤ c2) ∧ rv = .slice A2 (m) (c2) ∧ New w w' [row 3 1 A2 (m) (c2) (cells fI (gre xs v0 m))]) := by
  have oA := hA.atB
  subst eA
  have hlen := hs.1
  obtain ⟨v, rfl⟩ := Int.eq_ofNat_of_zero_le (hv)
  refine fn_enter (args := [.slice A (xs.length) (c), .int .i64 (((v : Nat) : Int)), .int .i64 (((m : Nat) : Int))]) Try.func86 rfl Try.ntmps86 rfl (SS.start w) ?_
  refine cw_seq ?_
  refine cw_region ?_
  refine wl_v (ov_assign rfl) rfl rfl rfl ?_
  refine wl_nil ?_
  refine ce_then ?_
  refine cw_seq ?_
  refine cw_region ?_
  refine wl_r (or_buildSlice (e := 3) (size := 1) (is := []) (vs := []) (cs := cells fI ([])) rfl rfl rfl (by decide) (fun _ => by kernel_rfl)) rfl rfl (kt1 rfl (fun g10 => ?_))
  refine wl_v (ov_assign rfl) rfl rfl rfl ?_
  refine wl_nil ?_
  refine ce_then ?_
  refine cw_seq ?_
  refine cw_block ?_
  refine cw_loop3 (fun (k : Nat) (A2 : Option Addr) (c2 : Nat) => [(0, .slice A (xs.length) (c)), (1, .int .i64 (((v : Nat) : Int))), (2, .int .i64 (((m : Nat) : Int))), (6, .slice none (0) (0)), (7, .slice A2 (k) (c2))]) (fun (k : Nat) (A2 : Option Addr) (c2 : Nat) => [row 3 1 A2 (k) (c2) (cells fI (gre xs ((v : Nat) : Int) k))]) (fun (k : Nat) (A2 : Option Addr) (c2 : Nat) => k ≤ m ∧ k ≤ c2) (fun (k : Nat) (A2 : Option Addr) (c2 : Nat) => m - k) 0 (some ⟨g10, 0, none⟩) 0 ⟨by omega, Nat.le_refl _⟩ (.cons rfl (.cons rfl (.cons rfl (.cons rfl (.cons rfl (.nil)))))) (.cons (.head) (.nil)) ?_
  intro R0 k A2 c2 hk hR0
  obtain ⟨hk1, hk2⟩ := hk
  refine cw_seq ?_
  refine cw_seq ?_
  refine cw_region ?_
  refine wl_v (ov_move rfl) rfl rfl rfl ?_
  refine wl_v (ov_len (sliceI_spec sI26) rfl) rfl rfl rfl ?_
  refine wl_v (ov_move rfl) rfl rfl rfl ?_
  refine wl_if (ov_lss rfl rfl) rfl rfl rfl (fun c14 => ?_) (fun c14 => ?_)
  ·
    refine wl_nil ?_
    refine ce_then ?_
    refine cw_true rfl ?_
    refine cw_skip ?_
    refine ce_then ?_
    refine cw_block ?_
    refine cw_seq ?_
    refine cw_region ?_
    refine wl_v (ov_assign rfl) rfl rfl rfl ?_
    refine wl_nil ?_
    refine ce_then ?_
    refine cw_seq ?_
    refine cw_seq ?_
    refine cw_region ?_
    refine wl_v (ov_assign rfl) rfl rfl rfl ?_
    refine wl_nil ?_
    refine ce_then ?_
    refine cw_block ?_
    refine cw_loop1 (fun (i : Nat) => [(0, .slice A (xs.length) (c)), (1, .int .i64 (((v : Nat) : Int))), (2, .int .i64 (((m : Nat) : Int))), (6, .slice none (0) (0)), (7, .slice A2 (k) (c2)), (8, .int .i64 (best xs (gre xs ((v : Nat) : Int) k) ((v : Nat) : Int) i)), (9, .int .i64 (((i : Nat) : Int)))]) (fun (i : Nat) => [row 3 1 A2 (k) (c2) (cells fI (gre xs ((v : Nat) : Int) k))]) (fun (i : Nat) => i ≤ xs.length) (fun (i : Nat) => xs.length - i) 0 (by omega) (.cons rfl (.cons rfl (.cons rfl (.cons rfl (.cons rfl (.cons (congrArg (fun z => some (Value.int .i64 z)) (show (-1) = (best xs (gre xs ((v : Nat) : Int) k) ((v : Nat) : Int) 0) from rfl)) (.cons (congrArg (fun z => some (Value.int .i64 z)) (show 0 = ((0 : Nat) : Int) by first | omega | rfl | (simp; done))) (.nil)))))))) (.cons (.head) (.nil)) ?_
    intro R1 i hk1 hR1
    have hb := best_bd xs (gre xs ((v : Nat) : Int) k) ((v : Nat) : Int) i
    refine cw_seq ?_
    refine cw_seq ?_
    refine cw_region ?_
    refine wl_v (ov_move rfl) rfl rfl rfl ?_
    refine wl_v (ov_move rfl) rfl rfl rfl ?_
    refine wl_v (ov_len (sliceI_spec sI26) rfl) rfl rfl rfl ?_
    refine wl_if (ov_lss rfl rfl) rfl rfl rfl (fun c18 => ?_) (fun c18 => ?_)
    ·
      refine wl_nil ?_
      refine ce_then ?_
      refine cw_true rfl ?_
      refine cw_skip ?_
      refine ce_then ?_
      refine cw_seq ?_
      refine cw_block ?_
      refine cw_seq ?_
      refine cw_draw mixO [] (.cons (.head) (.nil)) rfl ?_
      refine wg_takep (i := 0) rfl (ov_move rfl) rfl rfl rfl (by kernel_rfl) (by kernel_rfl) (by kernel_rfl) rfl ?_
      refine wg_takep (i := 1) rfl (ov_move rfl) rfl rfl rfl (by kernel_rfl) (by kernel_rfl) (by kernel_rfl) rfl ?_
      refine wg_takep_if (i := 2) rfl (ov_neq rfl rfl) rfl rfl rfl (by kernel_rfl) (by kernel_rfl) (by kernel_rfl) rfl (fun c23 => ?_) (fun c23 => ?_)
      ·
        refine wg_takep (i := 3) rfl (ov_move rfl) rfl rfl rfl (by kernel_rfl) (by kernel_rfl) (by kernel_rfl) rfl ?_
        refine wg_take_go (i := 4) rfl rfl rfl (ov_move rfl) rfl (by kernel_rfl) (by kernel_rfl) (by kernel_rfl) (by kernel_rfl) ?_
        refine wg_take_go (i := 5) rfl rfl rfl (ov_move rfl) rfl (by kernel_rfl) (by kernel_rfl) (by kernel_rfl) (by kernel_rfl) ?_
        refine wg_one (i := 6) (by kernel_rfl) ?_
        refine go_rg rfl rfl rfl rfl (or_call (fv := []) (vs := [.slice A2 (k) (c2), .int .i64 (((i : Nat) : Int))]) (cs := []) en67 rfl rfl (call_v (fun w hw => hasInt_c w A2 k c2 (gre xs ((v : Nat) : Int) k) ((i : Nat) : Int) ((holds_row (List.Mem.head _)) w hw) (gre_length _ _ _) hk2 (by rw [gre_length]; omega)))) (kt_if rfl (fun c27 => ?_) (fun c27 => ?_))
        ·
          refine gk (.cons (.head) (.nil)) ?_
          refine wg_take_go (i := 7) rfl rfl rfl (ov_not rfl) rfl (by kernel_rfl) (by kernel_rfl) (by kernel_rfl) (by kernel_rfl) ?_
          refine wg_takep (i := 8) rfl (ov_pick_t rfl rfl) rfl rfl rfl (by kernel_rfl) (by kernel_rfl) (by kernel_rfl) rfl ?_
          refine wg_takep (i := 9) rfl (ov_move rfl) rfl rfl rfl (by kernel_rfl) (by kernel_rfl) (by kernel_rfl) rfl ?_
          refine wg_take_not (i := 10) rfl rfl rfl rfl rfl (by kernel_rfl) (by kernel_rfl) (by kernel_rfl) (by kernel_rfl) ?_
          refine wg_take_not (i := 11) rfl rfl rfl rfl rfl (by kernel_rfl) (by kernel_rfl) (by kernel_rfl) (by kernel_rfl) ?_
          refine wg_take_not (i := 12) rfl rfl rfl rfl rfl (by kernel_rfl) (by kernel_rfl) (by kernel_rfl) (by kernel_rfl) ?_
          refine wg_take_notu (i := 13) rfl rfl rfl rfl (by kernel_rfl) (by kernel_rfl) (by kernel_rfl) (by kernel_rfl) ?_
          refine wg_take_notu (i := 14) rfl rfl rfl rfl (by kernel_rfl) (by kernel_rfl) (by kernel_rfl) (by kernel_rfl) ?_
          refine wg_take_notu (i := 15) rfl rfl rfl rfl (by kernel_rfl) (by kernel_rfl) (by kernel_rfl) (by kernel_rfl) ?_
          refine wg_take_notu (i := 16) rfl rfl rfl rfl (by kernel_rfl) (by kernel_rfl) (by kernel_rfl) (by kernel_rfl) ?_
          refine wg_take_notu (i := 17) rfl rfl rfl rfl (by kernel_rfl) (by kernel_rfl) (by kernel_rfl) (by kernel_rfl) ?_
          refine wg_take_notu (i := 18) rfl rfl rfl rfl (by kernel_rfl) (by kernel_rfl) (by kernel_rfl) (by kernel_rfl) ?_
          refine wg_take_notu (i := 19) rfl rfl rfl rfl (by kernel_rfl) (by kernel_rfl) (by kernel_rfl) (by kernel_rfl) ?_
          refine wg_take_notu (i := 20) rfl rfl rfl rfl (by kernel_rfl) (by kernel_rfl) (by kernel_rfl) (by kernel_rfl) ?_
          refine wg_take_notu (i := 21) rfl rfl rfl rfl (by kernel_rfl) (by kernel_rfl) (by kernel_rfl) (by kernel_rfl) ?_
          refine wg_take_not (i := 22) rfl rfl rfl rfl rfl (by kernel_rfl) (by kernel_rfl) (by kernel_rfl) (by kernel_rfl) ?_
          refine wg_takep (i := 23) rfl (ov_pick_f rfl rfl) rfl rfl rfl (by kernel_rfl) (by kernel_rfl) (by kernel_rfl) rfl ?_
          refine wg_done (by kernel_rfl) ?_
          refine ce_then ?_
          refine cw_false rfl ?_
          refine cw_skip ?_
          refine ce_block ?_
          refine ce_then ?_
          refine cw_region ?_
          refine wl_v (ov_move rfl) rfl rfl rfl ?_
          refine wl_v (ov_add (r := ((i + 1 : Nat) : Int)) rfl rfl rfl (by omega)) rfl rfl rfl ?_
          refine wl_v (ov_assign rfl) rfl rfl rfl ?_
          refine wl_nil ?_
          exact fun a w hs => hR1 (i + 1) (by omega) (by omega) a w (hs.weaken (.cons rfl (.cons rfl (.cons rfl (.cons rfl (.cons rfl (.cons (congrArg (fun z => some (Value.int .i64 z)) (show (best xs (gre xs ((v : Nat) : Int) k) ((v : Nat) : Int) i) = (best xs (gre xs ((v : Nat) : Int) k) ((v : Nat) : Int) (i + 1)) from (by rw [best, if_neg (fun h => h.2.1 c27)]))) (.cons rfl (.nil)))))))) (.cons (.head) (.nil)))
        ·
          refine gk (.cons (.head) (.nil)) ?_
          refine wg_take_go (i := 7) rfl rfl rfl (ov_not rfl) rfl (by kernel_rfl) (by kernel_rfl) (by kernel_rfl) (by kernel_rfl) ?_
          refine wg_takep (i := 8) rfl (ov_pick_t rfl rfl) rfl rfl rfl (by kernel_rfl) (by kernel_rfl) (by kernel_rfl) rfl ?_
          refine wg_takep (i := 9) rfl (ov_move rfl) rfl rfl rfl (by kernel_rfl) (by kernel_rfl) (by kernel_rfl) rfl ?_
          refine wg_take_go (i := 10) rfl rfl rfl (ov_move rfl) rfl (by kernel_rfl) (by kernel_rfl) (by kernel_rfl) (by kernel_rfl) ?_
          refine wg_take_go_if (i := 11) rfl rfl rfl (ov_lss rfl rfl) rfl (by kernel_rfl) (by kernel_rfl) (by kernel_rfl) (by kernel_rfl) (fun c32 => ?_) (fun c32 => ?_)
          ·
            refine wg_take_go (i := 12) rfl rfl rfl (ov_move rfl) rfl (by kernel_rfl) (by kernel_rfl) (by kernel_rfl) (by kernel_rfl) ?_
            refine wg_take_not (i := 13) rfl rfl rfl rfl rfl (by kernel_rfl) (by kernel_rfl) (by kernel_rfl) (by kernel_rfl) ?_
            refine wg_take_not (i := 14) rfl rfl rfl rfl rfl (by kernel_rfl) (by kernel_rfl) (by kernel_rfl) (by kernel_rfl) ?_
            refine wg_take_not (i := 15) rfl rfl rfl rfl rfl (by kernel_rfl) (by kernel_rfl) (by kernel_rfl) (by kernel_rfl) ?_
            refine wg_take_not (i := 16) rfl rfl rfl rfl rfl (by kernel_rfl) (by kernel_rfl) (by kernel_rfl) (by kernel_rfl) ?_
            refine wg_take_not (i := 17) rfl rfl rfl rfl rfl (by kernel_rfl) (by kernel_rfl) (by kernel_rfl) (by kernel_rfl) ?_
            refine wg_take_not (i := 18) rfl rfl rfl rfl rfl (by kernel_rfl) (by kernel_rfl) (by kernel_rfl) (by kernel_rfl) ?_
            refine wg_take_not (i := 19) rfl rfl rfl rfl rfl (by kernel_rfl) (by kernel_rfl) (by kernel_rfl) (by kernel_rfl) ?_
            refine wg_take_not (i := 20) rfl rfl rfl rfl rfl (by kernel_rfl) (by kernel_rfl) (by kernel_rfl) (by kernel_rfl) ?_
            refine wg_take_not (i := 21) rfl rfl rfl rfl rfl (by kernel_rfl) (by kernel_rfl) (by kernel_rfl) (by kernel_rfl) ?_
            refine wg_take_go (i := 22) rfl rfl rfl (ov_pick_t rfl rfl) rfl (by kernel_rfl) (by kernel_rfl) (by kernel_rfl) (by kernel_rfl) ?_
            refine wg_takep (i := 23) rfl (ov_pick_t rfl rfl) rfl rfl rfl (by kernel_rfl) (by kernel_rfl) (by kernel_rfl) rfl ?_
            refine wg_done (by kernel_rfl) ?_
            refine ce_then ?_
            refine cw_true rfl ?_
            refine cw_region ?_
            refine wl_v (ov_move rfl) rfl rfl rfl ?_
            refine wl_v (ov_assign rfl) rfl rfl rfl ?_
            refine wl_nil ?_
            refine ce_block ?_
            refine ce_then ?_
            refine cw_region ?_
            refine wl_v (ov_move rfl) rfl rfl rfl ?_
            refine wl_v (ov_add (r := ((i + 1 : Nat) : Int)) rfl rfl rfl (by omega)) rfl rfl rfl ?_
            refine wl_v (ov_assign rfl) rfl rfl rfl ?_
            refine wl_nil ?_
            exact fun a w hs => hR1 (i + 1) (by omega) (by omega) a w (hs.weaken (.cons rfl (.cons rfl (.cons rfl (.cons rfl (.cons rfl (.cons (congrArg (fun z => some (Value.int .i64 z)) (show ((i : Nat) : Int) = (best xs (gre xs ((v : Nat) : Int) k) ((v : Nat) : Int) (i + 1)) from (by rw [best, if_pos ⟨by omega, c27, .inl c32⟩]))) (.cons rfl (.nil)))))))) (.cons (.head) (.nil)))
          ·
            refine wg_take_go (i := 12) rfl rfl rfl (ov_move rfl) rfl (by kernel_rfl) (by kernel_rfl) (by kernel_rfl) (by kernel_rfl) ?_
            refine wg_take_go (i := 13) rfl rfl rfl (ov_move rfl) rfl (by kernel_rfl) (by kernel_rfl) (by kernel_rfl) (by kernel_rfl) ?_
            refine wg_take_go (i := 14) rfl rfl rfl (ov_move rfl) rfl (by kernel_rfl) (by kernel_rfl) (by kernel_rfl) (by kernel_rfl) ?_
            refine wg_take_go (i := 15) rfl rfl rfl (ov_index (k := i) (c := c) sI26 tI3 rfl rfl (some_holds (q := i * 1) (holds_old oA) (by rw [cells_length fI_len]; have hlt : i < xs.length := (by first | omega | (simp only [List.length_set, List.length_append, List.length_take, List.length_drop, List.length_replicate, List.length_cons, List.length_nil]; omega)); omega)) (show i < xs.length from (by first | omega | (simp only [List.length_set, List.length_append, List.length_take, List.length_drop, List.length_replicate, List.length_cons, List.length_nil]; omega)))) rfl (by kernel_rfl) (by kernel_rfl) (by kernel_rfl) (by kernel_rfl) ?_
            refine wg_take_go (i := 16) rfl rfl rfl (ov_load tI3 (holds_old oA) rfl (get_fI (show i < xs.length from (by first | omega | (simp only [List.length_set, List.length_append, List.length_take, List.length_drop, List.length_replicate, List.length_cons, List.length_nil]; omega))))) rfl (by kernel_rfl) (by kernel_rfl) (by kernel_rfl) (by kernel_rfl) ?_
            refine wg_take_go (i := 17) rfl rfl rfl (ov_move rfl) rfl (by kernel_rfl) (by kernel_rfl) (by kernel_rfl) (by kernel_rfl) ?_
            refine wg_take_go (i := 18) rfl rfl rfl (ov_move rfl) rfl (by kernel_rfl) (by kernel_rfl) (by kernel_rfl) (by kernel_rfl) ?_
            refine wg_take_go (i := 19) rfl rfl rfl (ov_indexg sI26 tI3 rfl rfl (some_holds (q := ((best xs (gre xs ((v : Nat) : Int) k) ((v : Nat) : Int) i).toNat) * 1) (holds_old oA) (by rw [cells_length fI_len]; have hlt : (best xs (gre xs ((v : Nat) : Int) k) ((v : Nat) : Int) i).toNat < xs.length := (by omega); omega)) (by omega) (show (best xs (gre xs ((v : Nat) : Int) k) ((v : Nat) : Int) i).toNat < xs.length from (by omega))) rfl (by kernel_rfl) (by kernel_rfl) (by kernel_rfl) (by kernel_rfl) ?_
            refine wg_take_go (i := 20) rfl rfl rfl (ov_load tI3 (holds_old oA) rfl (get_fI (show (best xs (gre xs ((v : Nat) : Int) k) ((v : Nat) : Int) i).toNat < xs.length from (by omega)))) rfl (by kernel_rfl) (by kernel_rfl) (by kernel_rfl) (by kernel_rfl) ?_
            refine wg_take_go_if (i := 21) rfl rfl rfl (ov_gtr rfl rfl) rfl (by kernel_rfl) (by kernel_rfl) (by kernel_rfl) (by kernel_rfl) (fun c42 => ?_) (fun c42 => ?_)
            ·
              refine wg_take_go (i := 22) rfl rfl rfl (ov_pick_f rfl rfl) rfl (by kernel_rfl) (by kernel_rfl) (by kernel_rfl) (by kernel_rfl) ?_
              refine wg_takep (i := 23) rfl (ov_pick_t rfl rfl) rfl rfl rfl (by kernel_rfl) (by kernel_rfl) (by kernel_rfl) rfl ?_
              refine wg_done (by kernel_rfl) ?_
              refine ce_then ?_
              refine cw_true rfl ?_
              refine cw_region ?_
              refine wl_v (ov_move rfl) rfl rfl rfl ?_
              refine wl_v (ov_assign rfl) rfl rfl rfl ?_
              refine wl_nil ?_
              refine ce_block ?_
              refine ce_then ?_
              refine cw_region ?_
              refine wl_v (ov_move rfl) rfl rfl rfl ?_
              refine wl_v (ov_add (r := ((i + 1 : Nat) : Int)) rfl rfl rfl (by omega)) rfl rfl rfl ?_
              refine wl_v (ov_assign rfl) rfl rfl rfl ?_
              refine wl_nil ?_
              exact fun a w hs => hR1 (i + 1) (by omega) (by omega) a w (hs.weaken (.cons rfl (.cons rfl (.cons rfl (.cons rfl (.cons rfl (.cons (congrArg (fun z => some (Value.int .i64 z)) (show ((i : Nat) : Int) = (best xs (gre xs ((v : Nat) : Int) k) ((v : Nat) : Int) (i + 1)) from (by rw [best, if_pos ⟨by omega, c27, .inr c42⟩]))) (.cons rfl (.nil)))))))) (.cons (.head) (.nil)))
            ·
              refine wg_take_go (i := 22) rfl rfl rfl (ov_pick_f rfl rfl) rfl (by kernel_rfl) (by kernel_rfl) (by kernel_rfl) (by kernel_rfl) ?_
              refine wg_takep (i := 23) rfl (ov_pick_t rfl rfl) rfl rfl rfl (by kernel_rfl) (by kernel_rfl) (by kernel_rfl) rfl ?_
              refine wg_done (by kernel_rfl) ?_
              refine ce_then ?_
              refine cw_false rfl ?_
              refine cw_skip ?_
              refine ce_block ?_
              refine ce_then ?_
              refine cw_region ?_
              refine wl_v (ov_move rfl) rfl rfl rfl ?_
              refine wl_v (ov_add (r := ((i + 1 : Nat) : Int)) rfl rfl rfl (by omega)) rfl rfl rfl ?_
              refine wl_v (ov_assign rfl) rfl rfl rfl ?_
              refine wl_nil ?_
              exact fun a w hs => hR1 (i + 1) (by omega) (by omega) a w (hs.weaken (.cons rfl (.cons rfl (.cons rfl (.cons rfl (.cons rfl (.cons (congrArg (fun z => some (Value.int .i64 z)) (show (best xs (gre xs ((v : Nat) : Int) k) ((v : Nat) : Int) i) = (best xs (gre xs ((v : Nat) : Int) k) ((v : Nat) : Int) (i + 1)) from (by rw [best, if_neg (fun h => h.2.2.elim c32 c42)]))) (.cons rfl (.nil)))))))) (.cons (.head) (.nil)))
      ·
        refine wg_takep (i := 3) rfl (ov_move rfl) rfl rfl rfl (by kernel_rfl) (by kernel_rfl) (by kernel_rfl) rfl ?_
        refine wg_take_not (i := 4) rfl rfl rfl rfl rfl (by kernel_rfl) (by kernel_rfl) (by kernel_rfl) (by kernel_rfl) ?_
        refine wg_take_not (i := 5) rfl rfl rfl rfl rfl (by kernel_rfl) (by kernel_rfl) (by kernel_rfl) (by kernel_rfl) ?_
        refine wg_take_not (i := 6) rfl rfl rfl rfl rfl (by kernel_rfl) (by kernel_rfl) (by kernel_rfl) (by kernel_rfl) ?_
        refine wg_take_not (i := 7) rfl rfl rfl rfl rfl (by kernel_rfl) (by kernel_rfl) (by kernel_rfl) (by kernel_rfl) ?_
        refine wg_takep (i := 8) rfl (ov_pick_f rfl rfl) rfl rfl rfl (by kernel_rfl) (by kernel_rfl) (by kernel_rfl) rfl ?_
        refine wg_takep (i := 9) rfl (ov_move rfl) rfl rfl rfl (by kernel_rfl) (by kernel_rfl) (by kernel_rfl) rfl ?_
        refine wg_take_not (i := 10) rfl rfl rfl rfl rfl (by kernel_rfl) (by kernel_rfl) (by kernel_rfl) (by kernel_rfl) ?_
        refine wg_take_not (i := 11) rfl rfl rfl rfl rfl (by kernel_rfl) (by kernel_rfl) (by kernel_rfl) (by kernel_rfl) ?_
        refine wg_take_not (i := 12) rfl rfl rfl rfl rfl (by kernel_rfl) (by kernel_rfl) (by kernel_rfl) (by kernel_rfl) ?_
        refine wg_take_notu (i := 13) rfl rfl rfl rfl (by kernel_rfl) (by kernel_rfl) (by kernel_rfl) (by kernel_rfl) ?_
        refine wg_take_notu (i := 14) rfl rfl rfl rfl (by kernel_rfl) (by kernel_rfl) (by kernel_rfl) (by kernel_rfl) ?_
        refine wg_take_notu (i := 15) rfl rfl rfl rfl (by kernel_rfl) (by kernel_rfl) (by kernel_rfl) (by kernel_rfl) ?_
        refine wg_take_notu (i := 16) rfl rfl rfl rfl (by kernel_rfl) (by kernel_rfl) (by kernel_rfl) (by kernel_rfl) ?_
        refine wg_take_notu (i := 17) rfl rfl rfl rfl (by kernel_rfl) (by kernel_rfl) (by kernel_rfl) (by kernel_rfl) ?_
        refine wg_take_notu (i := 18) rfl rfl rfl rfl (by kernel_rfl) (by kernel_rfl) (by kernel_rfl) (by kernel_rfl) ?_
        refine wg_take_notu (i := 19) rfl rfl rfl rfl (by kernel_rfl) (by kernel_rfl) (by kernel_rfl) (by kernel_rfl) ?_
        refine wg_take_notu (i := 20) rfl rfl rfl rfl (by kernel_rfl) (by kernel_rfl) (by kernel_rfl) (by kernel_rfl) ?_
        refine wg_take_notu (i := 21) rfl rfl rfl rfl (by kernel_rfl) (by kernel_rfl) (by kernel_rfl) (by kernel_rfl) ?_
        refine wg_take_not (i := 22) rfl rfl rfl rfl rfl (by kernel_rfl) (by kernel_rfl) (by kernel_rfl) (by kernel_rfl) ?_
        refine wg_takep (i := 23) rfl (ov_pick_f rfl rfl) rfl rfl rfl (by kernel_rfl) (by kernel_rfl) (by kernel_rfl) rfl ?_
        refine wg_done (by kernel_rfl) ?_
        refine ce_then ?_
        refine cw_false rfl ?_
        refine cw_skip ?_
        refine ce_block ?_
        refine ce_then ?_
        refine cw_region ?_
        refine wl_v (ov_move rfl) rfl rfl rfl ?_
        refine wl_v (ov_add (r := ((i + 1 : Nat) : Int)) rfl rfl rfl (by omega)) rfl rfl rfl ?_
        refine wl_v (ov_assign rfl) rfl rfl rfl ?_
        refine wl_nil ?_
        exact fun a w hs => hR1 (i + 1) (by omega) (by omega) a w (hs.weaken (.cons rfl (.cons rfl (.cons rfl (.cons rfl (.cons rfl (.cons (congrArg (fun z => some (Value.int .i64 z)) (show (best xs (gre xs ((v : Nat) : Int) k) ((v : Nat) : Int) i) = (best xs (gre xs ((v : Nat) : Int) k) ((v : Nat) : Int) (i + 1)) from (by rw [best, if_neg (fun h => c23 h.1)]))) (.cons rfl (.nil)))))))) (.cons (.head) (.nil)))
    ·
      refine wl_nil ?_
      refine ce_then ?_
      refine cw_false rfl ?_
      refine cw_exit ?_
      refine ce_then_exit ?_
      refine ce_then_exit ?_
      refine ce_hit ?_
      refine ce_then ?_
      refine cw_region ?_
      refine wl_v (ov_move rfl) rfl rfl rfl ?_
      refine wl_v (ov_move rfl) rfl rfl rfl ?_
      refine wl_r (or_buildSlice (e := 3) (size := 1) (is := [0]) (vs := [.int .i64 (best xs (gre xs ((v : Nat) : Int) k) ((v : Nat) : Int) i)]) (cs := cells fI ([best xs (gre xs ((v : Nat) : Int) k) ((v : Nat) : Int) i])) rfl rfl rfl (by decide) (fun _ => by kernel_rfl)) rfl rfl (kt1 rfl (fun g48 => ?_))
      refine wl_r (or_append (c2 := 1) sI26 tI3 rfl (by decide) rfl rfl (.tail .head) (holds_row (List.Mem.head _)) (by rw [cells_length fI_len]; try simp) (one_cells fI_one _) cells_append (by omega) (by omega)) rfl rfl (kt2p rfl (fun A49 c49 h49 => ?_))
      refine wl_v (ov_assign rfl) rfl rfl rfl ?_
      refine wl_nil ?_
      refine ce_block ?_
      exact fun a w hs => hR0 (k + 1) A49 c49 ⟨by omega, h49⟩ (by omega) a w (hs.weaken (.cons rfl (.cons rfl (.cons rfl (.cons rfl (.cons rfl (.nil)))))) (.consE (show row 3 1 A49 (k + 1) (c49) (cells fI ((gre xs ((v : Nat) : Int) k) ++ ([best xs (gre xs ((v : Nat) : Int) k) ((v : Nat) : Int) i]))) = row 3 1 A49 ((k + 1)) (c49) (cells fI (gre xs ((v : Nat) : Int) (k + 1))) by rw [gre, show i = xs.length from by omega]) (.head) (.nil)))
  ·
    refine wl_nil ?_
    refine ce_then ?_
    refine cw_false rfl ?_
    refine cw_exit ?_
    refine ce_then_exit ?_
    refine ce_then_exit ?_
    refine ce_hit ?_
    refine ce_then ?_
    refine cw_seq ?_
    refine cw_region ?_
    refine wl_v (ov_move rfl) rfl rfl rfl ?_
    refine wl_v (ov_assign rfl) rfl rfl rfl ?_
    refine wl_nil ?_
    refine ce_then ?_
    refine cw_ret ?_
    refine ce_results (v := .slice A2 (k) (c2)) (res1 rfl (rv_t rfl)) (fun w' hw => ?_)
    exact ⟨A2, c2, (by omega), (by rw [show k = m from by omega]), ((.consE (show row 3 1 A2 (k) (c2) (cells fI (gre xs ((v : Nat) : Int) k)) = row 3 1 A2 (m) (c2) (cells fI (gre xs ((v : Nat) : Int) m)) by rw [show k = m from by omega]) (.head) (.nil) : Keep _ _).ss hw).to_new⟩
set_option maxRecDepth 100000 in
theorem layOffS_c (w : World) (A : Option Addr) (n : Nat) (c : Nat) (xs : List (Int)) (v0 : Int) (hA : At w A (cells fI xs)) (eA : xs.length = n) (lA : n ≤ c) (hs : Valid xs) (hv : 0 ≤ v0 ∧ v0 ≤ (xs.length : Int) - 1) : Calls Try.prog 48 #[.slice A (n) (c), .int .i64 (v0)] w (Ret fun rv w' => ∃ A2 c2, ((layS xs v0).1.length ≤ c2) ∧ rv = .tuple #[.slice A2 ((layS xs v0).1.length) (c2), .bool ((layS xs v0).2)] ∧ New w w' [row 3 1 A2 ((layS xs v0).1.length) (c2) (cells fI ((layS xs v0).1))]) := by
  have oA := hA.atB
  subst eA
  have hlen := hs.1
  obtain ⟨v, rfl⟩ := Int.eq_ofNat_of_zero_le (hv.1)
  refine fn_enter (args := [.slice A (xs.length) (c), .int .i64 (((v : Nat) : Int))]) Try.func48 rfl Try.ntmps48 rfl (SS.start w) ?_
  refine cw_seq ?_
  refine cw_region ?_
  refine wl_v (ov_assign rfl) rfl rfl rfl ?_
  refine wl_v (ov_assign rfl) rfl rfl rfl ?_
  refine wl_nil ?_
  refine ce_then ?_
  refine cw_seq ?_
  have hdv := hs.2 _ (getD_mem (xs := xs) (k := v) 0 (by omega))
  refine cw_region ?_
  refine wl_v (ov_move rfl) rfl rfl rfl ?_
  refine wl_v (ov_move rfl) rfl rfl rfl ?_
  refine wl_v (ov_move rfl) rfl rfl rfl ?_
  refine wl_v (ov_move rfl) rfl rfl rfl ?_
  refine wl_v (ov_index (k := v) (c := c) sI26 tI3 rfl rfl (some_holds (q := v * 1) (holds_old oA) (by rw [cells_length fI_len]; have hlt : v < xs.length := (by first | omega | (simp only [List.length_set, List.length_append, List.length_take, List.length_drop, List.length_replicate, List.length_cons, List.length_nil]; omega)); omega)) (show v < xs.length from (by first | omega | (simp only [List.length_set, List.length_append, List.length_take, List.length_drop, List.length_replicate, List.length_cons, List.length_nil]; omega)))) rfl rfl rfl ?_
  refine wl_v (ov_load tI3 (holds_old oA) rfl ((get_fI (show v < xs.length from (by first | omega | (simp only [List.length_set, List.length_append, List.length_take, List.length_drop, List.length_replicate, List.length_cons, List.length_nil]; omega)))).trans (congrArg (fun z => some (Value.int .i64 z)) (show (xs.getD v 0) = (((xs.getD v 0).toNat : Nat) : Int) from (Int.toNat_of_nonneg hdv.1).symm)))) rfl rfl rfl ?_
  refine wl_r (or_call (fv := []) (vs := [.slice A (xs.length) (c), .int .i64 (((v : Nat) : Int)), .int .i64 ((((xs.getD v 0).toNat : Nat) : Int))]) (cs := []) en86 rfl rfl (call_x2 (fun w hw => greatestS_c w A xs.length c xs ((v : Nat) : Int) ((xs.getD v 0).toNat) ((holds_old oA) w hw) rfl lA hs.small (by first | assumption | omega | (simp; omega)) (by first | assumption | omega | (simp; omega))))) rfl rfl (kt2p rfl (fun A2_16 c2_16 h_16 => ?_))
  refine wl_v (ov_assign rfl) rfl rfl rfl ?_
  refine wl_nil ?_
  refine ce_then ?_
  refine cw_seq ?_
  refine cw_region ?_
  refine wl_r (or_buildSlice (e := 3) (size := 1) (is := []) (vs := []) (cs := cells fI ([])) rfl rfl rfl (by decide) (fun _ => by kernel_rfl)) rfl rfl (kt1 rfl (fun g17 => ?_))
  refine wl_v (ov_assign rfl) rfl rfl rfl ?_
  refine wl_nil ?_
  refine ce_then ?_
  refine cw_seq ?_
  refine cw_seq ?_
  refine cw_region ?_
  refine wl_v (ov_assign rfl) rfl rfl rfl ?_
  refine wl_nil ?_
  refine ce_then ?_
  refine cw_block ?_
  refine cw_loop3 (fun (k : Nat) (A2 : Option Addr) (c2 : Nat) => [(0, .slice A (xs.length) (c)), (1, .int .i64 (((v : Nat) : Int))), (6, .slice A2_16 (((xs.getD v 0).toNat)) (c2_16)), (7, .slice A2 ((lows xs (gre xs ((v : Nat) : Int) (xs.getD v 0).toNat) ((v : Nat) : Int) k).length) (c2)), (8, .int .i64 (((k : Nat) : Int)))]) (fun (k : Nat) (A2 : Option Addr) (c2 : Nat) => [row 3 1 A2 ((lows xs (gre xs ((v : Nat) : Int) (xs.getD v 0).toNat) ((v : Nat) : Int) k).length) (c2) (cells fI (lows xs (gre xs ((v : Nat) : Int) (xs.getD v 0).toNat) ((v : Nat) : Int) k)), row 3 1 A2_16 (((xs.getD v 0).toNat)) (c2_16) (cells fI (gre xs ((v : Nat) : Int) ((xs.getD v 0).toNat)))]) (fun (k : Nat) (A2 : Option Addr) (c2 : Nat) => k ≤ xs.length ∧ (lows xs (gre xs ((v : Nat) : Int) (xs.getD v 0).toNat) ((v : Nat) : Int) k).length ≤ c2 ∧ ∀ i, i < k → (i : Int) ≠ (v : Int) → 0 ≤ low xs (gre xs ((v : Nat) : Int) (xs.getD v 0).toNat) i) (fun (k : Nat) (A2 : Option Addr) (c2 : Nat) => xs.length - k) 0 (some ⟨g17, 0, none⟩) 0 ⟨by omega, Nat.le_refl _, fun i hi => absurd hi (Nat.not_lt_zero _)⟩ (.cons rfl (.cons rfl (.cons rfl (.cons rfl (.cons (congrArg (fun z => some (Value.int .i64 z)) (show 0 = ((0 : Nat) : Int) by first | omega | rfl | (simp; done))) (.nil)))))) (.cons (.head) (.cons (.head) (.nil))) ?_
  intro R0 k A2 c2 hk hR0
  obtain ⟨hk1, hk2, hk3⟩ := hk
  have hl := lows_len xs (gre xs ((v : Nat) : Int) (xs.getD v 0).toNat) ((v : Nat) : Int) k
  refine cw_seq ?_
  refine cw_seq ?_
  refine cw_region ?_
  refine wl_v (ov_move rfl) rfl rfl rfl ?_
  refine wl_v (ov_move rfl) rfl rfl rfl ?_
  refine wl_v (ov_len (sliceI_spec sI26) rfl) rfl rfl rfl ?_
  refine wl_if (ov_lss rfl rfl) rfl rfl rfl (fun c21 => ?_) (fun c21 => ?_)
  ·
    refine wl_nil ?_
    refine ce_then ?_
    refine cw_true rfl ?_
    refine cw_skip ?_
    refine ce_then ?_
    refine cw_seq ?_
    refine cw_block ?_
    refine cw_seq ?_
    refine cw_seq ?_
    refine cw_region ?_
    refine wl_v (ov_move rfl) rfl rfl rfl ?_
    refine wl_v (ov_move rfl) rfl rfl rfl ?_
    refine wl_if (ov_eql rfl rfl) rfl rfl rfl (fun c26 => ?_) (fun c26 => ?_)
    ·
      refine wl_nil ?_
      refine ce_then ?_
      refine cw_true rfl ?_
      refine cw_exit ?_
      refine ce_then_exit ?_
      refine ce_hit ?_
      refine ce_then ?_
      refine cw_region ?_
      refine wl_v (ov_move rfl) rfl rfl rfl ?_
      refine wl_v (ov_add (r := ((k + 1 : Nat) : Int)) rfl rfl rfl (by omega)) rfl rfl rfl ?_
      refine wl_v (ov_assign rfl) rfl rfl rfl ?_
      refine wl_nil ?_
      exact fun a w hs => hR0 (k + 1) A2 c2 ⟨by omega, by rw [lows_eq c26]; exact hk2, fun i hi hne => by rcases Nat.lt_succ_iff_lt_or_eq.1 hi with h | rfl; exact hk3 i h hne; exact absurd c26 hne⟩ (by omega) a w (hs.weaken (.cons rfl (.cons rfl (.cons rfl (.cons (congrArg (fun z => some (Value.slice A2 z c2)) (show ((lows xs (gre xs ((v : Nat) : Int) (xs.getD v 0).toNat) ((v : Nat) : Int) k).length) = ((lows xs (gre xs ((v : Nat) : Int) (xs.getD v 0).toNat) ((v : Nat) : Int) (k + 1)).length) from by rw [lows_eq c26])) (.cons rfl (.nil)))))) (.consE (show row 3 1 A2 ((lows xs (gre xs ((v : Nat) : Int) (xs.getD v 0).toNat) ((v : Nat) : Int) k).length) (c2) (cells fI (lows xs (gre xs ((v : Nat) : Int) (xs.getD v 0).toNat) ((v : Nat) : Int) k)) = row 3 1 A2 ((lows xs (gre xs ((v : Nat) : Int) (xs.getD v 0).toNat) ((v : Nat) : Int) (k + 1)).length) (c2) (cells fI (lows xs (gre xs ((v : Nat) : Int) (xs.getD v 0).toNat) ((v : Nat) : Int) (k + 1))) by rw [lows_eq c26]) (.head) (.cons (.head) (.nil))))
    ·
      have hdk := hs.2 _ (getD_mem (xs := xs) (k := k) 0 (by omega))
      refine wl_nil ?_
      refine ce_then ?_
      refine cw_false rfl ?_
      refine cw_skip ?_
      refine ce_then ?_
      refine cw_seq ?_
      refine cw_region ?_
      refine wl_v (ov_move rfl) rfl rfl rfl ?_
      refine wl_v (ov_move rfl) rfl rfl rfl ?_
      refine wl_v (ov_index (k := k) (c := c) sI26 tI3 rfl rfl (some_holds (q := k * 1) (holds_old oA) (by rw [cells_length fI_len]; have hlt : k < xs.length := (by first | omega | (simp only [List.length_set, List.length_append, List.length_take, List.length_drop, List.length_replicate, List.length_cons, List.length_nil]; omega)); omega)) (show k < xs.length from (by first | omega | (simp only [List.length_set, List.length_append, List.length_take, List.length_drop, List.length_replicate, List.length_cons, List.length_nil]; omega)))) rfl rfl rfl ?_
      refine wl_v (ov_load tI3 (holds_old oA) rfl (get_fI (show k < xs.length from (by first | omega | (simp only [List.length_set, List.length_append, List.length_take, List.length_drop, List.length_replicate, List.length_cons, List.length_nil]; omega))))) rfl rfl rfl ?_
      refine wl_v (ov_assign rfl) rfl rfl rfl ?_
      refine wl_nil ?_
      refine ce_then ?_
      refine cw_seq ?_
      refine cw_seq ?_
      refine cw_region ?_
      refine wl_v (ov_move rfl) rfl rfl rfl ?_
      refine wl_v (ov_move rfl) rfl rfl rfl ?_
      refine wl_r (or_call (fv := []) (vs := [.slice A2_16 (((xs.getD v 0).toNat)) (c2_16), .int .i64 (((k : Nat) : Int))]) (cs := []) en67 rfl rfl (call_v (fun w hw => hasInt_c w A2_16 ((xs.getD v 0).toNat) c2_16 (gre xs ((v : Nat) : Int) ((xs.getD v 0).toNat)) ((k : Nat) : Int) ((holds_row (List.Mem.tail _ (List.Mem.head _))) w hw) (gre_length _ _ _) h_16 (by rw [gre_length]; omega)))) rfl rfl (kt_if rfl (fun c33 => ?_) (fun c33 => ?_))
      ·
        have hlow : low xs (gre xs ((v : Nat) : Int) (xs.getD v 0).toNat) k = xs.getD k 0 - 1 := by rw [low, if_pos c33]
        refine wl_nil ?_
        refine ce_then ?_
        refine cw_true rfl ?_
        refine cw_region ?_
        refine wl_v (ov_move rfl) rfl rfl rfl ?_
        refine wl_v (ov_sub (r := (xs.getD k 0) - 1) rfl rfl rfl (by omega)) rfl rfl rfl ?_
        refine wl_v (ov_assign rfl) rfl rfl rfl ?_
        refine wl_nil ?_
        refine ce_then ?_
        refine cw_seq ?_
        refine cw_seq ?_
        refine cw_region ?_
        refine wl_v (ov_move rfl) rfl rfl rfl ?_
        refine wl_if (ov_lss rfl rfl) rfl rfl rfl (fun c37 => ?_) (fun c37 => ?_)
        ·
          have hno := layS_no (d := xs) (v := (v : Int)) (i := k) (by omega) c26 (by show low xs (gre xs ((v : Nat) : Int) (xs.getD v 0).toNat) k < 0; omega)
          refine ct_none fI 3 1 ?_
          refine wl_nil ?_
          refine ce_then ?_
          refine cw_true rfl ?_
          refine cw_seq ?_
          refine cw_region ?_
          refine wl_v (ov_assign rfl) rfl rfl rfl ?_
          refine wl_v (ov_assign rfl) rfl rfl rfl ?_
          refine wl_nil ?_
          refine ce_then ?_
          refine cw_ret ?_
          refine ce_then_ret ?_
          refine ce_block_ret ?_
          refine ce_then_ret ?_
          refine ce_then_ret ?_
          refine ce_block_ret ?_
          refine ce_then_ret ?_
          refine ce_results (v := .tuple #[.slice none (0) (0), .bool false]) (res2 rfl (rv_t rfl) (rv_t rfl)) (fun w' hw => ?_)
          exact ⟨none, 0, (by rw [hno]; exact Nat.le_refl _), (by rw [hno]; rfl), ((.consE (show row 3 1 none (0) (0) (cells fI ([])) = row 3 1 none ((layS xs v).1.length) (0) (cells fI ((layS xs v).1)) by rw [hno]; rfl) (.head) (.nil) : Keep _ _).ss hw).to_new⟩
        ·
          refine wl_nil ?_
          refine ce_then ?_
          refine cw_false rfl ?_
          refine cw_skip ?_
          refine ce_then ?_
          refine cw_region ?_
          refine wl_v (ov_move rfl) rfl rfl rfl ?_
          refine wl_v (ov_move rfl) rfl rfl rfl ?_
          refine wl_r (or_buildSlice (e := 3) (size := 1) (is := [0]) (vs := [.int .i64 ((xs.getD k 0) - 1)]) (cs := cells fI ([(xs.getD k 0) - 1])) rfl rfl rfl (by decide) (fun _ => by kernel_rfl)) rfl rfl (kt1 rfl (fun g40 => ?_))
          refine wl_r (or_append (c2 := 1) sI26 tI3 rfl (by decide) rfl rfl (.tail .head) (holds_row (List.Mem.head _)) (by rw [cells_length fI_len]; try simp) (one_cells fI_one _) cells_append (by omega) (by omega)) rfl rfl (kt2p rfl (fun A41 c41 h41 => ?_))
          refine wl_v (ov_assign rfl) rfl rfl rfl ?_
          refine wl_nil ?_
          refine ce_block ?_
          refine ce_then ?_
          refine cw_region ?_
          refine wl_v (ov_move rfl) rfl rfl rfl ?_
          refine wl_v (ov_add (r := ((k + 1 : Nat) : Int)) rfl rfl rfl (by omega)) rfl rfl rfl ?_
          refine wl_v (ov_assign rfl) rfl rfl rfl ?_
          refine wl_nil ?_
          exact fun a w hs => hR0 (k + 1) A41 c41 ⟨by omega, by rw [lows_ne c26]; simpa using h41, fun i hi hne => by rcases Nat.lt_succ_iff_lt_or_eq.1 hi with h | rfl; exact hk3 i h hne; omega⟩ (by omega) a w (hs.weaken (.cons rfl (.cons rfl (.cons rfl (.cons (congrArg (fun z => some (Value.slice A41 z c41)) (show (((lows xs (gre xs ((v : Nat) : Int) (xs.getD v 0).toNat) ((v : Nat) : Int) k).length) + 1) = ((lows xs (gre xs ((v : Nat) : Int) (xs.getD v 0).toNat) ((v : Nat) : Int) (k + 1)).length) from by rw [lows_ne c26]; simp)) (.cons rfl (.nil)))))) (.consE (show row 3 1 A41 (((lows xs (gre xs ((v : Nat) : Int) (xs.getD v 0).toNat) ((v : Nat) : Int) k).length) + 1) (c41) (cells fI ((lows xs (gre xs ((v : Nat) : Int) (xs.getD v 0).toNat) ((v : Nat) : Int) k) ++ ([(xs.getD k 0) - 1]))) = row 3 1 A41 ((lows xs (gre xs ((v : Nat) : Int) (xs.getD v 0).toNat) ((v : Nat) : Int) (k + 1)).length) (c41) (cells fI (lows xs (gre xs ((v : Nat) : Int) (xs.getD v 0).toNat) ((v : Nat) : Int) (k + 1))) by rw [lows_ne c26, hlow]; simp) (.head) (.cons (.tail .head) (.nil))))
      ·
        have hlow : low xs (gre xs ((v : Nat) : Int) (xs.getD v 0).toNat) k = xs.getD k 0 := by rw [low, if_neg c33]; omega
        refine wl_nil ?_
        refine ce_then ?_
        refine cw_false rfl ?_
        refine cw_skip ?_
        refine ce_then ?_
        refine cw_seq ?_
        refine cw_seq ?_
        refine cw_region ?_
        refine wl_v (ov_move rfl) rfl rfl rfl ?_
        refine wl_if (ov_lss rfl rfl) rfl rfl rfl (fun c37 => ?_) (fun c37 => ?_)
        ·
          have hno := layS_no (d := xs) (v := (v : Int)) (i := k) (by omega) c26 (by show low xs (gre xs ((v : Nat) : Int) (xs.getD v 0).toNat) k < 0; omega)
          refine ct_none fI 3 1 ?_
          refine wl_nil ?_
          refine ce_then ?_
          refine cw_true rfl ?_
          refine cw_seq ?_
          refine cw_region ?_
          refine wl_v (ov_assign rfl) rfl rfl rfl ?_
          refine wl_v (ov_assign rfl) rfl rfl rfl ?_
          refine wl_nil ?_
          refine ce_then ?_
          refine cw_ret ?_
          refine ce_then_ret ?_
          refine ce_block_ret ?_
          refine ce_then_ret ?_
          refine ce_then_ret ?_
          refine ce_block_ret ?_
          refine ce_then_ret ?_
          refine ce_results (v := .tuple #[.slice none (0) (0), .bool false]) (res2 rfl (rv_t rfl) (rv_t rfl)) (fun w' hw => ?_)
          exact ⟨none, 0, (by rw [hno]; exact Nat.le_refl _), (by rw [hno]; rfl), ((.consE (show row 3 1 none (0) (0) (cells fI ([])) = row 3 1 none ((layS xs v).1.length) (0) (cells fI ((layS xs v).1)) by rw [hno]; rfl) (.head) (.nil) : Keep _ _).ss hw).to_new⟩
        ·
          refine wl_nil ?_
          refine ce_then ?_
          refine cw_false rfl ?_
          refine cw_skip ?_
          refine ce_then ?_
          refine cw_region ?_
          refine wl_v (ov_move rfl) rfl rfl rfl ?_
          refine wl_v (ov_move rfl) rfl rfl rfl ?_
          refine wl_r (or_buildSlice (e := 3) (size := 1) (is := [0]) (vs := [.int .i64 ((xs.getD k 0))]) (cs := cells fI ([(xs.getD k 0)])) rfl rfl rfl (by decide) (fun _ => by kernel_rfl)) rfl rfl (kt1 rfl (fun g40 => ?_))
          refine wl_r (or_append (c2 := 1) sI26 tI3 rfl (by decide) rfl rfl (.tail .head) (holds_row (List.Mem.head _)) (by rw [cells_length fI_len]; try simp) (one_cells fI_one _) cells_append (by omega) (by omega)) rfl rfl (kt2p rfl (fun A41 c41 h41 => ?_))
          refine wl_v (ov_assign rfl) rfl rfl rfl ?_
          refine wl_nil ?_
          refine ce_block ?_
          refine ce_then ?_
          refine cw_region ?_
          refine wl_v (ov_move rfl) rfl rfl rfl ?_
          refine wl_v (ov_add (r := ((k + 1 : Nat) : Int)) rfl rfl rfl (by omega)) rfl rfl rfl ?_
          refine wl_v (ov_assign rfl) rfl rfl rfl ?_
          refine wl_nil ?_
          exact fun a w hs => hR0 (k + 1) A41 c41 ⟨by omega, by rw [lows_ne c26]; simpa using h41, fun i hi hne => by rcases Nat.lt_succ_iff_lt_or_eq.1 hi with h | rfl; exact hk3 i h hne; omega⟩ (by omega) a w (hs.weaken (.cons rfl (.cons rfl (.cons rfl (.cons (congrArg (fun z => some (Value.slice A41 z c41)) (show (((lows xs (gre xs ((v : Nat) : Int) (xs.getD v 0).toNat) ((v : Nat) : Int) k).length) + 1) = ((lows xs (gre xs ((v : Nat) : Int) (xs.getD v 0).toNat) ((v : Nat) : Int) (k + 1)).length) from by rw [lows_ne c26]; simp)) (.cons rfl (.nil)))))) (.consE (show row 3 1 A41 (((lows xs (gre xs ((v : Nat) : Int) (xs.getD v 0).toNat) ((v : Nat) : Int) k).length) + 1) (c41) (cells fI ((lows xs (gre xs ((v : Nat) : Int) (xs.getD v 0).toNat) ((v : Nat) : Int) k) ++ ([(xs.getD k 0)]))) = row 3 1 A41 ((lows xs (gre xs ((v : Nat) : Int) (xs.getD v 0).toNat) ((v : Nat) : Int) (k + 1)).length) (c41) (cells fI (lows xs (gre xs ((v : Nat) : Int) (xs.getD v 0).toNat) ((v : Nat) : Int) (k + 1))) by rw [lows_ne c26, hlow]; simp) (.head) (.cons (.tail .head) (.nil))))
  ·
    refine wl_nil ?_
    refine ce_then ?_
    refine cw_false rfl ?_
    refine cw_exit ?_
    refine ce_then_exit ?_
    refine ce_then_exit ?_
    refine ce_hit ?_
    refine ce_then ?_
    refine cw_seq ?_
    refine cw_region ?_
    have hyes := layS_yes (d := xs) (v := (v : Int)) (fun i hi hne => hk3 i (by omega) hne)
    refine wl_v (ov_move rfl) rfl rfl rfl ?_
    refine wl_v (ov_assign rfl) rfl rfl rfl ?_
    refine wl_v (ov_assign rfl) rfl rfl rfl ?_
    refine wl_nil ?_
    refine ce_then ?_
    refine cw_ret ?_
    refine ce_results (v := .tuple #[.slice A2 ((lows xs (gre xs ((v : Nat) : Int) (xs.getD v 0).toNat) ((v : Nat) : Int) k).length) (c2), .bool true]) (res2 rfl (rv_t rfl) (rv_t rfl)) (fun w' hw => ?_)
    exact ⟨A2, c2, (by rw [hyes, show xs.length = k from by omega]; exact hk2), (by rw [hyes, show xs.length = k from by omega] <;> rfl), ((.consE (show row 3 1 A2 ((lows xs (gre xs ((v : Nat) : Int) (xs.getD v 0).toNat) ((v : Nat) : Int) k).length) (c2) (cells fI (lows xs (gre xs ((v : Nat) : Int) (xs.getD v 0).toNat) ((v : Nat) : Int) k)) = row 3 1 A2 ((layS xs v).1.length) (c2) (cells fI ((layS xs v).1)) by rw [hyes, show xs.length = k from by omega] <;> rfl) (.head) (.nil) : Keep _ _).ss hw).to_new⟩
set_option maxRecDepth 100000 in
theorem LayOffS_c (w : World) (A : Option Addr) (n : Nat) (c : Nat) (xs : List (Int)) (v : Int) (hA : At w A (cells fI xs)) (eA : xs.length = n) (lA : n ≤ c) (hs : xs.length ≤ 1048576) : Calls Try.prog 23 #[.slice A (n) (c), .int .i64 (v)] w (Ret fun rv w' => ∃ A2 c2, ((laySpec xs v).1.length ≤ c2) ∧ rv = .tuple #[.slice A2 ((laySpec xs v).1.length) (c2), .bool ((laySpec xs v).2)] ∧ New w w' [row 3 1 A2 ((laySpec xs v).1.length) (c2) (cells fI ((laySpec xs v).1))]) := by
  have oA := hA.atB
  subst eA
  refine fn_enter (args := [.slice A (xs.length) (c), .int .i64 (v)]) Try.func23 rfl Try.ntmps23 rfl (SS.start w) ?_
  refine cw_seq ?_
  refine cw_region ?_
  refine wl_v (ov_assign rfl) rfl rfl rfl ?_
  refine wl_v (ov_assign rfl) rfl rfl rfl ?_
  refine wl_nil ?_
  refine ce_then ?_
  refine cw_seq ?_
  refine cw_seq ?_
  refine cw_region ?_
  refine wl_v (ov_move rfl) rfl rfl rfl ?_
  refine wl_r (or_call (fv := []) (vs := [.slice A (xs.length) (c)]) (cs := []) en41 rfl rfl (call_v (fun w hw => validS_c w A xs.length c xs ((holds_old oA) w hw) rfl lA (by first | assumption | omega | (simp; omega))))) rfl rfl (kt_if rfl (fun c7 => ?_) (fun c7 => ?_))
  ·
    refine wl_v (ov_not rfl) rfl rfl rfl ?_
    refine wl_v (ov_move rfl) rfl rfl rfl ?_
    refine wl_go rfl rfl ?_
    refine wl_v (ov_move rfl) rfl rfl rfl ?_
    refine wl_go rfl rfl ?_
    refine wl_v (ov_move rfl) rfl rfl rfl ?_
    refine wl_go rfl rfl ?_
    refine wl_v (ov_len (sliceI_spec sI26) rfl) rfl rfl rfl ?_
    refine wl_go rfl rfl ?_
    refine wl_v (ov_sub (r := ((xs.length : Nat) : Int) - 1) rfl rfl rfl (by omega)) rfl rfl rfl ?_
    refine wl_go rfl rfl ?_
    refine wl_r (or_call (fv := []) (vs := [.int .i64 (v), .int .i64 (0), .int .i64 (((xs.length : Nat) : Int) - 1)]) (cs := []) en47 rfl rfl (call_v (fun w hw => inRange_c w v 0 (((xs.length : Nat) : Int) - 1) ))) rfl rfl (kt_if rfl (fun c14 => ?_) (fun c14 => ?_))
    ·
      refine wl_go rfl rfl ?_
      refine wl_v (ov_not rfl) rfl rfl rfl ?_
      refine wl_v (ov_pick_f rfl rfl) rfl rfl rfl ?_
      refine wl_nil ?_
      refine ce_then ?_
      refine cw_false rfl ?_
      refine cw_skip ?_
      refine ce_then ?_
      refine cw_seq ?_
      have hyes : laySpec xs v = layS xs v := if_pos ⟨c7, c14⟩
      refine cw_region ?_
      refine wl_v (ov_move rfl) rfl rfl rfl ?_
      refine wl_v (ov_move rfl) rfl rfl rfl ?_
      refine wl_r (or_call (fv := []) (vs := [.slice A (xs.length) (c), .int .i64 (v)]) (cs := []) en48 rfl rfl (call_x2 (fun w hw => layOffS_c w A xs.length c xs v ((holds_old oA) w hw) rfl lA (by first | assumption | omega | (simp; omega)) (by first | assumption | omega | (simp; omega))))) rfl rfl (kt2p rfl (fun A2_19 c2_19 h_19 => ?_))
      refine wl_v (ov_extract rfl rfl) rfl rfl rfl ?_
      refine wl_v (ov_extract rfl rfl) rfl rfl rfl ?_
      refine wl_v (ov_assign rfl) rfl rfl rfl ?_
      refine wl_v (ov_assign rfl) rfl rfl rfl ?_
      refine wl_nil ?_
      refine ce_then ?_
      refine cw_ret ?_
      refine ce_results (v := .tuple #[.slice A2_19 ((layS xs v).1.length) (c2_19), .bool ((layS xs v).2)]) (res2 rfl (rv_t rfl) (rv_t rfl)) (fun w' hw => ?_)
      exact ⟨A2_19, c2_19, (by rw [hyes]; exact h_19), (by rw [hyes] <;> rfl), ((.consE (show row 3 1 A2_19 ((layS xs v).1.length) (c2_19) (cells fI ((layS xs v).1)) = row 3 1 A2_19 ((laySpec xs v).1.length) (c2_19) (cells fI ((laySpec xs v).1)) by rw [hyes] <;> rfl) (.head) (.nil) : Keep _ _).ss hw).to_new⟩
    ·
      refine wl_go rfl rfl ?_
      refine wl_v (ov_not rfl) rfl rfl rfl ?_
      refine wl_v (ov_pick_f rfl rfl) rfl rfl rfl ?_
      refine wl_nil ?_
      refine ce_then ?_
      refine cw_true rfl ?_
      refine cw_seq ?_
      have hno : laySpec xs v = ([], false) := if_neg (fun h => by first | exact c7 h.1 | exact c14 h.2)
      refine ct_none fI 3 1 ?_
      refine cw_region ?_
      refine wl_v (ov_assign rfl) rfl rfl rfl ?_
      refine wl_v (ov_assign rfl) rfl rfl rfl ?_
      refine wl_nil ?_
      refine ce_then ?_
      refine cw_ret ?_
      refine ce_then_ret ?_
      refine ce_results (v := .tuple #[.slice none (0) (0), .bool false]) (res2 rfl (rv_t rfl) (rv_t rfl)) (fun w' hw => ?_)
      exact ⟨none, 0, (by rw [hno]; exact Nat.le_refl _), (by rw [hno]; rfl), ((.consE (show row 3 1 none (0) (0) (cells fI ([])) = row 3 1 none ((laySpec xs v).1.length) (0) (cells fI ((laySpec xs v).1)) by rw [hno]; rfl) (.head) (.nil) : Keep _ _).ss hw).to_new⟩
  ·
    refine wl_v (ov_not rfl) rfl rfl rfl ?_
    refine wl_v (ov_move rfl) rfl rfl rfl ?_
    refine wl_not rfl rfl rfl rfl rfl rfl ?_
    refine wl_not rfl rfl rfl rfl rfl rfl ?_
    refine wl_not rfl rfl rfl rfl rfl rfl ?_
    refine wl_not rfl rfl rfl rfl rfl rfl ?_
    refine wl_not rfl rfl rfl rfl rfl rfl ?_
    refine wl_not rfl rfl rfl rfl rfl rfl ?_
    refine wl_v (ov_pick_t rfl rfl) rfl rfl rfl ?_
    refine wl_nil ?_
    refine ce_then ?_
    refine cw_true rfl ?_
    refine cw_seq ?_
    have hno : laySpec xs v = ([], false) := if_neg (fun h => by first | exact c7 h.1 | exact c14 h.2)
    refine ct_none fI 3 1 ?_
    refine cw_region ?_
    refine wl_v (ov_assign rfl) rfl rfl rfl ?_
    refine wl_v (ov_assign rfl) rfl rfl rfl ?_
    refine wl_nil ?_
    refine ce_then ?_
    refine cw_ret ?_
    refine ce_then_ret ?_
    refine ce_results (v := .tuple #[.slice none (0) (0), .bool false]) (res2 rfl (rv_t rfl) (rv_t rfl)) (fun w' hw => ?_)
    exact ⟨none, 0, (by rw [hno]; exact Nat.le_refl _), (by rw [hno]; rfl), ((.consE (show row 3 1 none (0) (0) (cells fI ([])) = row 3 1 none ((laySpec xs v).1.length) (0) (cells fI ((laySpec xs v).1)) by rw [hno]; rfl) (.head) (.nil) : Keep _ _).ss hw).to_new⟩
set_option maxRecDepth 100000 in
theorem LayOffI_c (w : World) (A : Option Addr) (n : Nat) (c : Nat) (xs : List (Int)) (v0 : Int) (hA : At w A (cells fI xs)) (eA : xs.length = n) (lA : n ≤ c) (hs : xs.length ≤ 1048576) : Calls Try.prog 24 #[.slice A (n) (c), .int .i64 (v0)] w (Ret fun rv w' => ∃ A2 c2 c3, ((layImpl xs v0).1.length ≤ c2) ∧ rv = .tuple #[.slice A2 ((layImpl xs v0).1.length) (c2), .bool ((layImpl xs v0).2)] ∧ New w w' [row 3 1 A2 ((layImpl xs v0).1.length) (c3) (cells fI ((layImpl xs v0).1))]) := by
  have oA := hA.atB
  subst eA
  refine fn_enter (args := [.slice A (xs.length) (c), .int .i64 (v0)]) Try.func24 rfl Try.ntmps24 rfl (SS.start w) ?_
  refine cw_seq ?_
  refine cw_region ?_
  refine wl_v (ov_assign rfl) rfl rfl rfl ?_
  refine wl_v (ov_assign rfl) rfl rfl rfl ?_
  refine wl_nil ?_
  refine ce_then ?_
  refine cw_seq ?_
  refine cw_seq ?_
  refine cw_region ?_
  refine wl_v (ov_move rfl) rfl rfl rfl ?_
  refine wl_r (or_call (fv := []) (vs := [.slice A (xs.length) (c)]) (cs := []) en49 rfl rfl (call_v (fun w hw => validI_c w A xs.length c xs ((holds_old oA) w hw) rfl lA (by first | assumption | omega | (simp; omega))))) rfl rfl (kt_if rfl (fun c10 => ?_) (fun c10 => ?_))
  ·
    refine wl_v (ov_not rfl) rfl rfl rfl ?_
    refine wl_v (ov_move rfl) rfl rfl rfl ?_
    refine wl_go rfl rfl ?_
    refine wl_v (ov_move rfl) rfl rfl rfl ?_
    refine wl_go rfl rfl ?_
    refine wl_v (ov_move rfl) rfl rfl rfl ?_
    refine wl_go rfl rfl ?_
    refine wl_v (ov_len (sliceI_spec sI26) rfl) rfl rfl rfl ?_
    refine wl_go rfl rfl ?_
    refine wl_v (ov_sub (r := ((xs.length : Nat) : Int) - 1) rfl rfl rfl (by omega)) rfl rfl rfl ?_
    refine wl_go rfl rfl ?_
    refine wl_r (or_call (fv := []) (vs := [.int .i64 (v0), .int .i64 (0), .int .i64 (((xs.length : Nat) : Int) - 1)]) (cs := []) en38 rfl rfl (call_v (fun w hw => in_c w v0 0 (((xs.length : Nat) : Int) - 1) ))) rfl rfl (kt_if rfl (fun c17 => ?_) (fun c17 => ?_))
    ·
      refine wl_go rfl rfl ?_
      refine wl_v (ov_not rfl) rfl rfl rfl ?_
      refine wl_v (ov_pick_f rfl rfl) rfl rfl rfl ?_
      refine wl_nil ?_
      refine ce_then ?_
      refine cw_false rfl ?_
      refine cw_skip ?_
      refine ce_then ?_
      refine cw_seq ?_
      have hyes : layImpl xs v0 = layI xs v0 := if_pos ⟨c10, c17⟩
      have hlen := c10.1
      obtain ⟨v, rfl⟩ := Int.eq_ofNat_of_zero_le (c17.1)
      have hdv := c10.2 _ (getD_mem (xs := xs) (k := v) 0 (by omega))
      have hil := idx_length (n := xs.length) (v := v) (by omega)
      have hosl : ((isort 0 (ltOf (byDeg xs)) (idx xs.length ((v : Nat) : Int))).take (xs.getD v 0).toNat).length = (xs.getD v 0).toNat := by rw [List.length_take, isort_length]; omega
      refine cw_region ?_
      refine wl_v (ov_move rfl) rfl rfl rfl ?_
      refine wl_r (or_call (fv := []) (vs := [.slice A (xs.length) (c)]) (cs := []) en50 rfl rfl (call_x2 (fun w hw => cloneC_c w A xs.length c xs ((holds_old oA) w hw) rfl lA (by first | assumption | omega | (simp; omega))))) rfl rfl (kt2p rfl (fun A2_21 c2_21 h_21 => ?_))
      refine wl_v (ov_assign rfl) rfl rfl rfl ?_
      refine wl_nil ?_
      refine ce_then ?_
      refine cw_seq ?_
      refine cw_seq ?_
      refine cw_draw mixO [] (.cons (.head) (.nil)) rfl ?_
      refine wg_takep (i := 0) rfl (ov_move rfl) rfl rfl rfl (by kernel_rfl) (by kernel_rfl) (by kernel_rfl) rfl ?_
      refine wg_takep (i := 1) rfl (ov_move rfl) rfl rfl rfl (by kernel_rfl) (by kernel_rfl) (by kernel_rfl) rfl ?_
      refine wg_takep (i := 2) rfl (ov_len (sliceI_spec sI26) rfl) rfl rfl rfl (by kernel_rfl) (by kernel_rfl) (by kernel_rfl) rfl ?_
      refine wg_takep (i := 3) rfl (ov_move rfl) rfl rfl rfl (by kernel_rfl) (by kernel_rfl) (by kernel_rfl) rfl ?_
      refine wg_takep (i := 5) rfl (ov_move rfl) rfl rfl rfl (by kernel_rfl) (by kernel_rfl) (by kernel_rfl) rfl ?_
      refine wg_takep (i := 6) rfl (ov_move rfl) rfl rfl rfl (by kernel_rfl) (by kernel_rfl) (by kernel_rfl) rfl ?_
      refine wg_take (i := 7) rfl (ov_index (k := v) (c := c) sI26 tI3 rfl rfl (some_holds (q := v * 1) (holds_old oA) (by rw [cells_length fI_len]; have hlt : v < xs.length := (by first | omega | (simp only [decs_length, List.length_set, List.length_append, List.length_take, List.length_drop, List.length_replicate, List.length_cons, List.length_nil]; omega)); omega)) (show v < xs.length from (by first | omega | (simp only [decs_length, List.length_set, List.length_append, List.length_take, List.length_drop, List.length_replicate, List.length_cons, List.length_nil]; omega)))) rfl rfl rfl (by kernel_rfl) (by kernel_rfl) (by kernel_rfl) (by kernel_rfl) ?_
      refine wg_take (i := 8) rfl (ov_load tI3 (holds_old oA) rfl ((get_fI (show v < xs.length from (by first | omega | (simp only [decs_length, List.length_set, List.length_append, List.length_take, List.length_drop, List.length_replicate, List.length_cons, List.length_nil]; omega)))).trans (congrArg (fun z => some (Value.int .i64 z)) (show (xs.getD v 0) = (((xs.getD v 0).toNat : Nat) : Int) from (Int.toNat_of_nonneg hdv.1).symm)))) rfl rfl rfl (by kernel_rfl) (by kernel_rfl) (by kernel_rfl) (by kernel_rfl) ?_
      refine wg_takep (i := 11) rfl (ov_move rfl) rfl rfl rfl (by kernel_rfl) (by kernel_rfl) (by kernel_rfl) rfl ?_
      refine wg_one (i := 4) (by kernel_rfl) ?_
      refine go_r rfl rfl rfl rfl (or_call (fv := []) (vs := [.int .i64 (((xs.length : Nat) : Int)), .int .i64 (((v : Nat) : Int))]) (cs := []) en52 rfl rfl (call_x2 (fun w hw => indices_c w xs.length ((v : Nat) : Int) (by first | assumption | omega | (simp; omega))))) (kt2p rfl (fun A2_26 c2_26 h_26 => ?_))
      refine gk (.cons (.tail .head) (.nil)) ?_
      refine wg_one (i := 9) (by kernel_rfl) ?_
      refine go_r rfl rfl rfl rfl (or_call (fv := []) (vs := [.slice A (xs.length) (c), .slice A2_26 ((idx xs.length ((v : Nat) : Int)).length) (c2_26), .int .i64 ((((xs.getD v 0).toNat : Nat) : Int))]) (cs := []) en51 rfl rfl (call_x2 (fun w hw => greatestI_c w A xs.length c xs A2_26 ((idx xs.length ((v : Nat) : Int)).length) c2_26 (idx xs.length ((v : Nat) : Int)) ((xs.getD v 0).toNat) ((holds_old oA) w hw) rfl lA ((holds_row (List.Mem.head _)) w hw) rfl h_26 c10.small (by omega) (fun y hy => by have := idx_mem.1 hy; omega) (by omega)))) (kt2p rfl (fun A2_31 c2_31 h_31 => ?_))
      refine gk (.cons (.tail (.tail .head)) (.nil)) ?_
      refine wg_takep (i := 10) rfl (ov_len (sliceI_spec sI26) rfl) rfl rfl rfl (by kernel_rfl) (by kernel_rfl) (by kernel_rfl) rfl ?_
      refine wg_done (by kernel_rfl) ?_
      refine ce_then ?_
      refine cw_block ?_
      refine cw_loop1 (fun (m : Nat) => [(1, .int .i64 (((v : Nat) : Int))), (6, .slice A2_21 (xs.length) (xs.length)), (31, .slice A2_31 (((xs.getD v 0).toNat)) (((idx xs.length ((v : Nat) : Int)).length))), (32, .int .i64 (((((xs.getD v 0).toNat) : Nat) : Int))), (33, .int .i64 (((m : Nat) : Int)))]) (fun (m : Nat) => [row 3 1 A2_31 (((idx xs.length ((v : Nat) : Int)).length)) (c2_31) (cells fI (isort 0 (ltOf (byDeg xs)) (idx xs.length ((v : Nat) : Int)))), row 3 1 A2_26 ((idx xs.length ((v : Nat) : Int)).length) (c2_26) (cells fI (idx xs.length ((v : Nat) : Int))), row 3 1 A2_21 (xs.length) (c2_21) (cells fI (decs xs (((isort 0 (ltOf (byDeg xs)) (idx xs.length ((v : Nat) : Int))).take (xs.getD v 0).toNat).take m)))]) (fun (m : Nat) => m ≤ ((isort 0 (ltOf (byDeg xs)) (idx xs.length ((v : Nat) : Int))).take (xs.getD v 0).toNat).length ∧ ∀ j, j < m → 0 ≤ (decs xs (((isort 0 (ltOf (byDeg xs)) (idx xs.length ((v : Nat) : Int))).take (xs.getD v 0).toNat).take (j + 1))).getD (((isort 0 (ltOf (byDeg xs)) (idx xs.length ((v : Nat) : Int))).take (xs.getD v 0).toNat).getD j 0).toNat 0) (fun (m : Nat) => ((isort 0 (ltOf (byDeg xs)) (idx xs.length ((v : Nat) : Int))).take (xs.getD v 0).toNat).length - m) 0 ⟨by omega, fun j hj => absurd hj (Nat.not_lt_zero _)⟩ (.cons rfl (.cons rfl (.cons rfl (.cons rfl (.cons (congrArg (fun z => some (Value.int .i64 z)) (show 0 = ((0 : Nat) : Int) by first | omega | rfl | (simp; done))) (.nil)))))) (.cons (.head) (.cons (.head) (.consE (show row 3 1 A2_21 (xs.length) (c2_21) (cells fI xs) = row 3 1 A2_21 (xs.length) (c2_21) (cells fI (decs xs (((isort 0 (ltOf (byDeg xs)) (idx xs.length ((v : Nat) : Int))).take (xs.getD v 0).toNat).take 0))) by rfl) (.head) (.nil)))) ?_
      intro R0 m hk hR0
      obtain ⟨hm1, hm2⟩ := hk
      refine cw_seq ?_
      refine cw_region ?_
      refine wl_if (ov_lss rfl rfl) rfl rfl rfl (fun c34 => ?_) (fun c34 => ?_)
      ·
        refine wl_nil ?_
        refine ce_then ?_
        refine cw_seq ?_
        refine cw_true rfl ?_
        refine cw_skip ?_
        refine ce_then ?_
        refine cw_seq ?_
        refine cw_block ?_
        refine cw_seq ?_
        refine cw_region ?_
        refine wl_v (ov_index (k := m) (c := ((idx xs.length ((v : Nat) : Int)).length)) sI26 tI3 rfl rfl (some_holds (q := m * 1) (holds_takeC (k := ((xs.getD v 0).toNat)) fI_len (holds_row (List.Mem.head _))) (by rw [cells_length fI_len]; have hlt : m < ((isort 0 (ltOf (byDeg xs)) (idx xs.length ((v : Nat) : Int))).take ((xs.getD v 0).toNat)).length := (by first | omega | (simp only [decs_length, List.length_set, List.length_append, List.length_take, List.length_drop, List.length_replicate, List.length_cons, List.length_nil]; omega)); omega)) (show m < ((xs.getD v 0).toNat) from (by first | omega | (simp only [decs_length, List.length_set, List.length_append, List.length_take, List.length_drop, List.length_replicate, List.length_cons, List.length_nil]; omega)))) rfl rfl rfl ?_
        refine wl_v (ov_load tI3 (holds_takeC (k := ((xs.getD v 0).toNat)) fI_len (holds_row (List.Mem.head _))) rfl (get_fI (show m < ((isort 0 (ltOf (byDeg xs)) (idx xs.length ((v : Nat) : Int))).take ((xs.getD v 0).toNat)).length from (by first | omega | (simp only [decs_length, List.length_set, List.length_append, List.length_take, List.length_drop, List.length_replicate, List.length_cons, List.length_nil]; omega))))) rfl rfl rfl ?_
        have hoi := idx_mem.1 (isort_mem _ (List.mem_of_mem_take (getD_mem (xs := ((isort 0 (ltOf (byDeg xs)) (idx xs.length ((v : Nat) : Int))).take (xs.getD v 0).toNat)) (k := m) 0 (by omega))))
        have hdec : decs xs (((isort 0 (ltOf (byDeg xs)) (idx xs.length ((v : Nat) : Int))).take (xs.getD v 0).toNat).take (m + 1)) = (decs xs (((isort 0 (ltOf (byDeg xs)) (idx xs.length ((v : Nat) : Int))).take (xs.getD v 0).toNat).take m)).set (((isort 0 (ltOf (byDeg xs)) (idx xs.length ((v : Nat) : Int))).take (xs.getD v 0).toNat).getD m 0).toNat ((decs xs (((isort 0 (ltOf (byDeg xs)) (idx xs.length ((v : Nat) : Int))).take (xs.getD v 0).toNat).take m)).getD (((isort 0 (ltOf (byDeg xs)) (idx xs.length ((v : Nat) : Int))).take (xs.getD v 0).toNat).getD m 0).toNat 0 - 1) := by rw [take_succ 0 (by omega), decs_snoc]
        have hbd := decs_bd c10.small (((isort 0 (ltOf (byDeg xs)) (idx xs.length ((v : Nat) : Int))).take (xs.getD v 0).toNat).take m) _ (getD_mem (xs := decs xs (((isort 0 (ltOf (byDeg xs)) (idx xs.length ((v : Nat) : Int))).take (xs.getD v 0).toNat).take m)) (k := (((isort 0 (ltOf (byDeg xs)) (idx xs.length ((v : Nat) : Int))).take (xs.getD v 0).toNat).getD m 0).toNat) 0 (by rw [decs_length]; omega))
        have htl : (((isort 0 (ltOf (byDeg xs)) (idx xs.length ((v : Nat) : Int))).take (xs.getD v 0).toNat).take m).length ≤ 7 := by rw [List.length_take]; omega
        refine wl_v (ov_assign rfl) rfl rfl rfl ?_
        refine wl_nil ?_
        refine ce_then ?_
        refine cw_seq ?_
        refine cw_region ?_
        refine wl_v (ov_move rfl) rfl rfl rfl ?_
        refine wl_v (ov_move rfl) rfl rfl rfl ?_
        refine wl_v (ov_indexg sI26 tI3 rfl rfl (some_holds (q := ((((isort 0 (ltOf (byDeg xs)) (idx xs.length ((v : Nat) : Int))).take ((xs.getD v 0).toNat)).getD m 0).toNat) * 1) (holds_row (List.Mem.tail _ (List.Mem.tail _ (List.Mem.head _)))) (by rw [cells_length fI_len]; have hlt : (((isort 0 (ltOf (byDeg xs)) (idx xs.length ((v : Nat) : Int))).take ((xs.getD v 0).toNat)).getD m 0).toNat < (decs xs (((isort 0 (ltOf (byDeg xs)) (idx xs.length ((v : Nat) : Int))).take (xs.getD v 0).toNat).take m)).length := (by first | omega | (simp only [decs_length, List.length_set, List.length_append, List.length_take, List.length_drop, List.length_replicate, List.length_cons, List.length_nil]; omega)); omega)) (by omega) (show (((isort 0 (ltOf (byDeg xs)) (idx xs.length ((v : Nat) : Int))).take ((xs.getD v 0).toNat)).getD m 0).toNat < xs.length from (by first | omega | (simp only [decs_length, List.length_set, List.length_append, List.length_take, List.length_drop, List.length_replicate, List.length_cons, List.length_nil]; omega)))) rfl rfl rfl ?_
        refine wl_v (ov_load tI3 (holds_row (List.Mem.tail _ (List.Mem.tail _ (List.Mem.head _)))) rfl (get_fI (show (((isort 0 (ltOf (byDeg xs)) (idx xs.length ((v : Nat) : Int))).take ((xs.getD v 0).toNat)).getD m 0).toNat < (decs xs (((isort 0 (ltOf (byDeg xs)) (idx xs.length ((v : Nat) : Int))).take (xs.getD v 0).toNat).take m)).length from (by first | omega | (simp only [decs_length, List.length_set, List.length_append, List.length_take, List.length_drop, List.length_replicate, List.length_cons, List.length_nil]; omega))))) rfl rfl rfl ?_
        refine wl_v (ov_sub (r := ((decs xs (((isort 0 (ltOf (byDeg xs)) (idx xs.length ((v : Nat) : Int))).take (xs.getD v 0).toNat).take m)).getD ((((isort 0 (ltOf (byDeg xs)) (idx xs.length ((v : Nat) : Int))).take ((xs.getD v 0).toNat)).getD m 0).toNat) 0) - 1) rfl rfl rfl (by omega)) rfl rfl rfl ?_
        refine wl_v (ov_indexg sI26 tI3 rfl rfl (some_holds (q := ((((isort 0 (ltOf (byDeg xs)) (idx xs.length ((v : Nat) : Int))).take ((xs.getD v 0).toNat)).getD m 0).toNat) * 1) (holds_row (List.Mem.tail _ (List.Mem.tail _ (List.Mem.head _)))) (by rw [cells_length fI_len]; have hlt : (((isort 0 (ltOf (byDeg xs)) (idx xs.length ((v : Nat) : Int))).take ((xs.getD v 0).toNat)).getD m 0).toNat < (decs xs (((isort 0 (ltOf (byDeg xs)) (idx xs.length ((v : Nat) : Int))).take (xs.getD v 0).toNat).take m)).length := (by first | omega | (simp only [decs_length, List.length_set, List.length_append, List.length_take, List.length_drop, List.length_replicate, List.length_cons, List.length_nil]; omega)); omega)) (by omega) (show (((isort 0 (ltOf (byDeg xs)) (idx xs.length ((v : Nat) : Int))).take ((xs.getD v 0).toNat)).getD m 0).toNat < xs.length from (by first | omega | (simp only [decs_length, List.length_set, List.length_append, List.length_take, List.length_drop, List.length_replicate, List.length_cons, List.length_nil]; omega)))) rfl rfl rfl ?_
        refine wl_r0 (or_store_row (vs := [.int .i64 (((decs xs (((isort 0 (ltOf (byDeg xs)) (idx xs.length ((v : Nat) : Int))).take (xs.getD v 0).toNat).take m)).getD ((((isort 0 (ltOf (byDeg xs)) (idx xs.length ((v : Nat) : Int))).take ((xs.getD v 0).toNat)).getD m 0).toNat) 0) - 1)]) (cs' := cells fI ((decs xs (((isort 0 (ltOf (byDeg xs)) (idx xs.length ((v : Nat) : Int))).take (xs.getD v 0).toNat).take m)).set ((((isort 0 (ltOf (byDeg xs)) (idx xs.length ((v : Nat) : Int))).take ((xs.getD v 0).toNat)).getD m 0).toNat) (((decs xs (((isort 0 (ltOf (byDeg xs)) (idx xs.length ((v : Nat) : Int))).take (xs.getD v 0).toNat).take m)).getD ((((isort 0 (ltOf (byDeg xs)) (idx xs.length ((v : Nat) : Int))).take ((xs.getD v 0).toNat)).getD m 0).toNat) 0) - 1))) (.tail (.tail .head)) tI3 rfl rfl rfl rfl (by rw [cells_length fI_len]; have hlt := (show (((isort 0 (ltOf (byDeg xs)) (idx xs.length ((v : Nat) : Int))).take ((xs.getD v 0).toNat)).getD m 0).toNat < (decs xs (((isort 0 (ltOf (byDeg xs)) (idx xs.length ((v : Nat) : Int))).take (xs.getD v 0).toNat).take m)).length from (by first | omega | (simp only [decs_length, List.length_set, List.length_append, List.length_take, List.length_drop, List.length_replicate, List.length_cons, List.length_nil]; omega))); simp only [List.length_cons, List.length_nil]; omega) (by simp) (cells_splice fI_len (show (((isort 0 (ltOf (byDeg xs)) (idx xs.length ((v : Nat) : Int))).take ((xs.getD v 0).toNat)).getD m 0).toNat < (decs xs (((isort 0 (ltOf (byDeg xs)) (idx xs.length ((v : Nat) : Int))).take (xs.getD v 0).toNat).take m)).length from (by first | omega | (simp only [decs_length, List.length_set, List.length_append, List.length_take, List.length_drop, List.length_replicate, List.length_cons, List.length_nil]; omega))) (((decs xs (((isort 0 (ltOf (byDeg xs)) (idx xs.length ((v : Nat) : Int))).take (xs.getD v 0).toNat).take m)).getD ((((isort 0 (ltOf (byDeg xs)) (idx xs.length ((v : Nat) : Int))).take ((xs.getD v 0).toNat)).getD m 0).toNat) 0) - 1))) rfl rfl (kn0 ?_)
        refine wl_nil ?_
        refine ce_then ?_
        refine cw_seq ?_
        refine cw_region ?_
        refine wl_v (ov_move rfl) rfl rfl rfl ?_
        refine wl_v (ov_move rfl) rfl rfl rfl ?_
        refine wl_v (ov_indexg sI26 tI3 rfl rfl (some_holds (q := ((((isort 0 (ltOf (byDeg xs)) (idx xs.length ((v : Nat) : Int))).take ((xs.getD v 0).toNat)).getD m 0).toNat) * 1) (holds_row (List.Mem.head _)) (by rw [cells_length fI_len]; have hlt : (((isort 0 (ltOf (byDeg xs)) (idx xs.length ((v : Nat) : Int))).take ((xs.getD v 0).toNat)).getD m 0).toNat < ((decs xs (((isort 0 (ltOf (byDeg xs)) (idx xs.length ((v : Nat) : Int))).take (xs.getD v 0).toNat).take m)).set ((((isort 0 (ltOf (byDeg xs)) (idx xs.length ((v : Nat) : Int))).take ((xs.getD v 0).toNat)).getD m 0).toNat) (((decs xs (((isort 0 (ltOf (byDeg xs)) (idx xs.length ((v : Nat) : Int))).take (xs.getD v 0).toNat).take m)).getD ((((isort 0 (ltOf (byDeg xs)) (idx xs.length ((v : Nat) : Int))).take ((xs.getD v 0).toNat)).getD m 0).toNat) 0) - 1)).length := (by first | omega | (simp only [decs_length, List.length_set, List.length_append, List.length_take, List.length_drop, List.length_replicate, List.length_cons, List.length_nil]; omega)); omega)) (by omega) (show (((isort 0 (ltOf (byDeg xs)) (idx xs.length ((v : Nat) : Int))).take ((xs.getD v 0).toNat)).getD m 0).toNat < xs.length from (by first | omega | (simp only [decs_length, List.length_set, List.length_append, List.length_take, List.length_drop, List.length_replicate, List.length_cons, List.length_nil]; omega)))) rfl rfl rfl ?_
        refine wl_v (ov_load tI3 (holds_row (List.Mem.head _)) rfl (get_fI (show (((isort 0 (ltOf (byDeg xs)) (idx xs.length ((v : Nat) : Int))).take ((xs.getD v 0).toNat)).getD m 0).toNat < ((decs xs (((isort 0 (ltOf (byDeg xs)) (idx xs.length ((v : Nat) : Int))).take (xs.getD v 0).toNat).take m)).set ((((isort 0 (ltOf (byDeg xs)) (idx xs.length ((v : Nat) : Int))).take ((xs.getD v 0).toNat)).getD m 0).toNat) (((decs xs (((isort 0 (ltOf (byDeg xs)) (idx xs.length ((v : Nat) : Int))).take (xs.getD v 0).toNat).take m)).getD ((((isort 0 (ltOf (byDeg xs)) (idx xs.length ((v : Nat) : Int))).take ((xs.getD v 0).toNat)).getD m 0).toNat) 0) - 1)).length from (by first | omega | (simp only [decs_length, List.length_set, List.length_append, List.length_take, List.length_drop, List.length_replicate, List.length_cons, List.length_nil]; omega))))) rfl rfl rfl ?_
        refine wl_if (ov_lss rfl rfl) rfl rfl rfl (fun c47 => ?_) (fun c47 => ?_)
        ·
          have hno : layI xs (v : Int) = ([], false) := layI_no (d := xs) (v := (v : Int)) (m := m) (by show m < ((isort 0 (ltOf (byDeg xs)) (idx xs.length ((v : Nat) : Int))).take (xs.getD v 0).toNat).length; omega) (by show (decs xs (((isort 0 (ltOf (byDeg xs)) (idx xs.length ((v : Nat) : Int))).take (xs.getD v 0).toNat).take (m + 1))).getD (((isort 0 (ltOf (byDeg xs)) (idx xs.length ((v : Nat) : Int))).take (xs.getD v 0).toNat).getD m 0).toNat 0 < 0; rw [hdec]; omega)
          refine ct_none fI 3 1 ?_
          refine wl_nil ?_
          refine ce_then ?_
          refine cw_true rfl ?_
          refine cw_seq ?_
          refine cw_region ?_
          refine wl_v (ov_assign rfl) rfl rfl rfl ?_
          refine wl_v (ov_assign rfl) rfl rfl rfl ?_
          refine wl_nil ?_
          refine ce_then ?_
          refine cw_ret ?_
          refine ce_block_ret ?_
          refine ce_then_ret ?_
          refine ce_then_ret ?_
          refine ce_block_ret ?_
          refine ce_then_ret ?_
          refine ce_results (v := .tuple #[.slice none (0) (0), .bool false]) (res2 rfl (rv_t rfl) (rv_t rfl)) (fun w' hw => ?_)
          exact ⟨none, 0, 0, (by rw [hyes, hno]; exact Nat.le_refl _), (by rw [hyes, hno] <;> rfl), ((.consE (show row 3 1 none (0) (0) (cells fI ([])) = row 3 1 none ((layImpl xs ((v : Nat) : Int)).1.length) (0) (cells fI ((layImpl xs ((v : Nat) : Int)).1)) by rw [hyes, hno] <;> rfl) (.head) (.nil) : Keep _ _).ss hw).to_new⟩
        ·
          refine wl_nil ?_
          refine ce_then ?_
          refine cw_false rfl ?_
          refine cw_skip ?_
          refine ce_block ?_
          refine ce_then ?_
          refine cw_region ?_
          refine wl_v (ov_add (r := ((m + 1 : Nat) : Int)) rfl rfl rfl (by omega)) rfl rfl rfl ?_
          refine wl_v (ov_move rfl) rfl rfl rfl ?_
          refine wl_nil ?_
          exact fun a w hs => hR0 (m + 1) ⟨by omega, fun j hj => by rcases Nat.lt_succ_iff_lt_or_eq.1 hj with h | rfl; exact hm2 j h; rw [hdec]; omega⟩ (by omega) a w (hs.weaken (.cons rfl (.cons rfl (.cons rfl (.cons rfl (.cons rfl (.nil)))))) (.cons (.tail .head) (.cons (.tail .head) (.consE (show row 3 1 A2_21 (xs.length) (c2_21) (cells fI ((decs xs (((isort 0 (ltOf (byDeg xs)) (idx xs.length ((v : Nat) : Int))).take (xs.getD v 0).toNat).take m)).set ((((isort 0 (ltOf (byDeg xs)) (idx xs.length ((v : Nat) : Int))).take ((xs.getD v 0).toNat)).getD m 0).toNat) (((decs xs (((isort 0 (ltOf (byDeg xs)) (idx xs.length ((v : Nat) : Int))).take (xs.getD v 0).toNat).take m)).getD ((((isort 0 (ltOf (byDeg xs)) (idx xs.length ((v : Nat) : Int))).take ((xs.getD v 0).toNat)).getD m 0).toNat) 0) - 1))) = row 3 1 A2_21 (xs.length) (c2_21) (cells fI (decs xs (((isort 0 (ltOf (byDeg xs)) (idx xs.length ((v : Nat) : Int))).take (xs.getD v 0).toNat).take (m + 1)))) by rw [hdec]) (.head) (.nil)))))
      ·
        refine wl_nil ?_
        refine ce_then ?_
        refine cw_seq ?_
        refine cw_false rfl ?_
        refine cw_exit ?_
        refine ce_then_exit ?_
        refine ce_then_exit ?_
        refine ce_hit ?_
        refine ce_then ?_
        refine cw_seq ?_
        refine cw_region ?_
        refine wl_v (ov_move rfl) rfl rfl rfl ?_
        refine wl_v (ov_move rfl) rfl rfl rfl ?_
        refine wl_v (ov_move rfl) rfl rfl rfl ?_
        refine wl_v (ov_add (r := ((v + 1 : Nat) : Int)) rfl rfl rfl (by omega)) rfl rfl rfl ?_
        obtain ⟨hfin, hl1, hl3⟩ := layI_fin (d := xs) (v := v) (m := m) (by omega) (by show m = ((isort 0 (ltOf (byDeg xs)) (idx xs.length ((v : Nat) : Int))).take (xs.getD v 0).toNat).length; omega) hm2
        have hlay := hyes.trans hfin
        refine wl_r (or_call (fv := []) (vs := [.slice A2_21 (xs.length) (xs.length), .int .i64 (((v : Nat) : Int)), .int .i64 (((v + 1 : Nat) : Int))]) (cs := []) en53 rfl rfl (call_m (.tail (.tail .head)) (fun w hw => delete_c w _ _ _ A2_21 xs.length c2_21 xs.length (decs xs (((isort 0 (ltOf (byDeg xs)) (idx xs.length ((v : Nat) : Int))).take (xs.getD v 0).toNat).take m)) v (v + 1) (decs_length _ _) (Nat.le_refl _) ⟨rfl, by omega⟩ (by first | assumption | omega | (simp; omega)) hw))) rfl rfl (kt0 rfl ?_)
        refine wl_r (or_call (fv := []) (vs := [.slice A2_21 (xs.length - 1) (xs.length)]) (cs := []) en50 rfl rfl (call_x2 (fun w hw => cloneC_c w A2_21 (xs.length - 1) xs.length ((del (decs xs (((isort 0 (ltOf (byDeg xs)) (idx xs.length ((v : Nat) : Int))).take (xs.getD v 0).toNat).take m)) v).take (xs.length - 1)) ((holds_takeC (k := (xs.length - 1)) fI_len (holds_row (List.Mem.head _))) w hw) (by rw [List.length_take, del_length (by rw [decs_length]; omega), decs_length]; omega) (by omega) (by rw [List.length_take, del_length (by rw [decs_length]; omega), decs_length]; omega)))) rfl rfl (kt2p rfl (fun A2_54 c2_54 h_54 => ?_))
        refine wl_v (ov_assign rfl) rfl rfl rfl ?_
        refine wl_v (ov_assign rfl) rfl rfl rfl ?_
        refine wl_nil ?_
        refine ce_then ?_
        refine cw_ret ?_
        refine ce_results (v := .tuple #[.slice A2_54 ((xs.length - 1)) ((xs.length - 1)), .bool true]) (res2 rfl (rv_t rfl) (rv_t rfl)) (fun w' hw => ?_)
        exact ⟨A2_54, xs.length - 1, c2_54, (by rw [hlay]; exact Nat.le_of_eq hl1), (by rw [hlay, hl1]), ((.consE (show row 3 1 A2_54 ((xs.length - 1)) (c2_54) (cells fI ((del (decs xs (((isort 0 (ltOf (byDeg xs)) (idx xs.length ((v : Nat) : Int))).take (xs.getD v 0).toNat).take m)) v).take (xs.length - 1))) = row 3 1 A2_54 ((layImpl xs ((v : Nat) : Int)).1.length) (c2_54) (cells fI ((layImpl xs ((v : Nat) : Int)).1)) by rw [hlay, hl1]; exact congrArg (fun z => row 3 1 A2_54 (xs.length - 1) c2_54 (cells fI z)) hl3) (.head) (.nil) : Keep _ _).ss hw).to_new⟩
    ·
      refine wl_go rfl rfl ?_
      refine wl_v (ov_not rfl) rfl rfl rfl ?_
      refine wl_v (ov_pick_f rfl rfl) rfl rfl rfl ?_
      refine wl_nil ?_
      refine ce_then ?_
      refine cw_true rfl ?_
      refine cw_seq ?_
      have hno : layImpl xs v0 = ([], false) := if_neg (fun h => by first | exact c10 h.1 | exact c17 h.2)
      refine ct_none fI 3 1 ?_
      refine cw_region ?_
      refine wl_v (ov_assign rfl) rfl rfl rfl ?_
      refine wl_v (ov_assign rfl) rfl rfl rfl ?_
      refine wl_nil ?_
      refine ce_then ?_
      refine cw_ret ?_
      refine ce_then_ret ?_
      refine ce_results (v := .tuple #[.slice none (0) (0), .bool false]) (res2 rfl (rv_t rfl) (rv_t rfl)) (fun w' hw => ?_)
      exact ⟨none, 0, 0, (by rw [hno]; exact Nat.le_refl _), (by rw [hno] <;> rfl), ((.consE (show row 3 1 none (0) (0) (cells fI ([])) = row 3 1 none ((layImpl xs v0).1.length) (0) (cells fI ((layImpl xs v0).1)) by rw [hno] <;> rfl) (.head) (.nil) : Keep _ _).ss hw).to_new⟩
  ·
    refine wl_v (ov_not rfl) rfl rfl rfl ?_
    refine wl_v (ov_move rfl) rfl rfl rfl ?_
    refine wl_not rfl rfl rfl rfl rfl rfl ?_
    refine wl_not rfl rfl rfl rfl rfl rfl ?_
    refine wl_not rfl rfl rfl rfl rfl rfl ?_
    refine wl_not rfl rfl rfl rfl rfl rfl ?_
    refine wl_not rfl rfl rfl rfl rfl rfl ?_
    refine wl_not rfl rfl rfl rfl rfl rfl ?_
    refine wl_v (ov_pick_t rfl rfl) rfl rfl rfl ?_
    refine wl_nil ?_
    refine ce_then ?_
    refine cw_true rfl ?_
    refine cw_seq ?_
    have hno : layImpl xs v0 = ([], false) := if_neg (fun h => by first | exact c10 h.1 | exact c17 h.2)
    refine ct_none fI 3 1 ?_
    refine cw_region ?_
    refine wl_v (ov_assign rfl) rfl rfl rfl ?_
    refine wl_v (ov_assign rfl) rfl rfl rfl ?_
    refine wl_nil ?_
    refine ce_then ?_
    refine cw_ret ?_
    refine ce_then_ret ?_
    refine ce_results (v := .tuple #[.slice none (0) (0), .bool false]) (res2 rfl (rv_t rfl) (rv_t rfl)) (fun w' hw => ?_)
    exact ⟨none, 0, 0, (by rw [hno]; exact Nat.le_refl _), (by rw [hno] <;> rfl), ((.consE (show row 3 1 none (0) (0) (cells fI ([])) = row 3 1 none ((layImpl xs v0).1.length) (0) (cells fI ((layImpl xs v0).1)) by rw [hno] <;> rfl) (.head) (.nil) : Keep _ _).ss hw).to_new⟩
end Go.Proofs.Ytnnoggjcdhkfbaa.W3
