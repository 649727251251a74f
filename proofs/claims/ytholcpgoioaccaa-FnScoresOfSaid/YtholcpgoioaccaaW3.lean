/- Walks of functions of the given program: each returns what its Lean function says and leaves the memory that was there as it was. Conditions: those of each theorem. -/
import Derived.Test.YtholcpgoioaccaaSm
import Derived.Test.YtholcpgoioaccaaProg
import Derived.Test.YtholcpgoioaccaaPl
import Derived.Test.YtholcpgoioaccaaPo
import Derived.Test.YtholcpgoioaccaaPd
import Derived.Test.YtholcpgoioaccaaPe
import Derived.Test.YtholcpgoioaccaaPh
import Derived.Test.YtholcpgoioaccaaPm
import Derived.Test.YtholcpgoioaccaaPc
import Derived.Test.YtholcpgoioaccaaPs
import Derived.Test.YtholcpgoioaccaaPt
import Derived.Test.YtholcpgoioaccaaPu
import Derived.Test.YtholcpgoioaccaaPv
import Derived.Test.YtholcpgoioaccaaSo
import Derived.Test.YtholcpgoioaccaaSh
import Derived.Test.YtholcpgoioaccaaT
import Derived.Test.YtholcpgoioaccaaW1
import Derived.Test.YtholcpgoioaccaaW2
import Derived.KernelRfl
namespace Go.Proofs.Ytholcpgoioaccaa.W3
open Go.Sx Go.RowKit Go.Proofs.Ytholcpgoioaccaa.T Go.Proofs.Ytholcpgoioaccaa.W1 Go.Proofs.Ytholcpgoioaccaa.W2
open Go.Plain
set_option linter.unusedVariables false
set_option maxRecDepth 100000 in
theorem greatest1_c (w : World) (a : Int) (b : Int) (g1 : Nat) (A : Option Addr) (n : Nat) (c : Nat) (xs : List Int) (hg1 : At w (some ⟨g1, 0, none⟩) [.slice A (n) (c)]) (hA : At w A (cells fI xs)) (eA : xs.length = n) (lA : n ≤ c) (hs : Small xs) (ha : 0 ≤ a ∧ a < n) (hb : 0 ≤ b ∧ b < n) : Calls Try.prog 85 #[.int .i64 (a), .int .i64 (b), elp (some ⟨g1, 0, none⟩) (0)] w (Ret fun rv w' => rv = .int .i64 (byDeg xs a b) ∧ New w w' []) := by
  have og1 := hg1.atB
  have oA := hA.atB
  have hx1 := hs.at_ (k := a.toNat) (by omega)
  have hx2 := hs.at_ (k := b.toNat) (by omega)
  refine fn_enter (args := [.int .i64 (a), .int .i64 (b), elp (some ⟨g1, 0, none⟩) (0)]) Try.func85 rfl Try.ntmps85 rfl (SS.start w) ?_
  refine cw_seq ?_
  refine cw_region ?_
  refine wl_v (ov_assign rfl) rfl rfl rfl ?_
  refine wl_nil ?_
  refine ce_then ?_
  refine cw_seq ?_
  refine cw_draw mixO [] (.nil) rfl ?_
  refine wg_take (i := 0) rfl (ov_load tI23 (holds_old og1) rfl rfl) rfl rfl rfl (by kernel_rfl) (by kernel_rfl) (by kernel_rfl) (by kernel_rfl) ?_
  refine wg_takep (i := 1) rfl (ov_move rfl) rfl rfl rfl (by kernel_rfl) (by kernel_rfl) (by kernel_rfl) rfl ?_
  refine wg_take (i := 2) rfl (ov_indexg sI23 tI3 rfl rfl (some_holds (q := b.toNat * 1) (holds_old oA) (by rw [cells_length fI_len]; have hlt : b.toNat < xs.length := (by first | omega | (simp; omega)); omega)) (by omega) (show b.toNat < n from (by first | omega | (simp; omega)))) rfl rfl rfl (by kernel_rfl) (by kernel_rfl) (by kernel_rfl) (by kernel_rfl) ?_
  refine wg_take (i := 3) rfl (ov_load tI3 (holds_old oA) rfl (get_fI (show b.toNat < xs.length from (by first | omega | (simp; omega))))) rfl rfl rfl (by kernel_rfl) (by kernel_rfl) (by kernel_rfl) (by kernel_rfl) ?_
  refine wg_take (i := 4) rfl (ov_load tI23 (holds_old og1) rfl rfl) rfl rfl rfl (by kernel_rfl) (by kernel_rfl) (by kernel_rfl) (by kernel_rfl) ?_
  refine wg_takep (i := 5) rfl (ov_move rfl) rfl rfl rfl (by kernel_rfl) (by kernel_rfl) (by kernel_rfl) rfl ?_
  refine wg_take (i := 6) rfl (ov_indexg sI23 tI3 rfl rfl (some_holds (q := a.toNat * 1) (holds_old oA) (by rw [cells_length fI_len]; have hlt : a.toNat < xs.length := (by first | omega | (simp; omega)); omega)) (by omega) (show a.toNat < n from (by first | omega | (simp; omega)))) rfl rfl rfl (by kernel_rfl) (by kernel_rfl) (by kernel_rfl) (by kernel_rfl) ?_
  refine wg_take (i := 7) rfl (ov_load tI3 (holds_old oA) rfl (get_fI (show a.toNat < xs.length from (by first | omega | (simp; omega))))) rfl rfl rfl (by kernel_rfl) (by kernel_rfl) (by kernel_rfl) (by kernel_rfl) ?_
  refine wg_takep (i := 8) rfl (ov_sub (r := (xs.getD b.toNat 0) - (xs.getD a.toNat 0)) rfl rfl rfl (by omega)) rfl rfl rfl (by kernel_rfl) (by kernel_rfl) (by kernel_rfl) rfl ?_
  refine wg_takep (i := 9) rfl (ov_assign rfl) rfl rfl rfl (by kernel_rfl) (by kernel_rfl) (by kernel_rfl) rfl ?_
  refine wg_done (by kernel_rfl) ?_
  refine ce_then ?_
  refine cw_ret ?_
  refine ce_results (v := .int .i64 ((xs.getD b.toNat 0) - (xs.getD a.toNat 0))) (res1 rfl (rv_t rfl)) (fun w' hw => ?_)
  exact ⟨rfl, (Keep.nil.ss hw).to_new⟩
set_option maxRecDepth 100000 in
theorem greatestI_c (w : World) (A : Option Addr) (n : Nat) (c : Nat) (xs : List (Int)) (A1 : Option Addr) (n1 : Nat) (c1 : Nat) (ys : List (Int)) (m : Nat) (hA : At w A (cells fI xs)) (eA : xs.length = n) (lA : n ≤ c) (hA1 : At w A1 (cells fI ys)) (eA1 : ys.length = n1) (lA1 : n1 ≤ c1) (hs : Small xs) (hn : n1 ≤ 12) (hi : ∀ y ∈ ys, 0 ≤ y ∧ y < n) (hm : m ≤ n1) : Calls Try.prog 59 #[.slice A (n) (c), .slice A1 (n1) (c1), .int .i64 (((m : Nat) : Int))] w (Ret fun rv w' => ∃ A2 c2, (n1 ≤ c2) ∧ rv = .slice A2 (m) (n1) ∧ New w w' [row 3 1 A2 (n1) (c2) (cells fI (isort 0 (ltOf (byDeg xs)) ys))]) := by
  have oA := hA.atB
  subst eA
  have oA1 := hA1.atB
  subst eA1
  refine fn_enter (args := [.slice A (xs.length) (c), .slice A1 (ys.length) (c1), .int .i64 (((m : Nat) : Int))]) Try.func59 rfl Try.ntmps59 rfl (SS.start w) ?_
  refine cw_seq ?_
  refine cw_region ?_
  refine wl_r (or_box rfl rfl) rfl rfl (kt1 rfl (fun g3 => ?_))
  refine wl_v (ov_assign rfl) rfl rfl rfl ?_
  refine wl_nil ?_
  refine ce_then ?_
  refine cw_seq ?_
  refine cw_region ?_
  refine wl_v (ov_move rfl) rfl rfl rfl ?_
  refine wl_r (or_call (fv := []) (vs := [.slice A1 (ys.length) (c1)]) (cs := []) en56 rfl rfl (call_x2 (fun w hw => cloneC_c w A1 ys.length c1 ys ((holds_old oA1) w hw) rfl lA1 (by first | assumption | omega | (simp; omega))))) rfl rfl (kt2p rfl (fun A2_9 c2_9 h_9 => ?_))
  refine wl_v (ov_assign rfl) rfl rfl rfl ?_
  refine wl_nil ?_
  refine ce_then ?_
  refine cw_seq ?_
  refine cw_region ?_
  refine wl_v (ov_move rfl) rfl rfl rfl ?_
  refine wl_v (ov_makeFunc (vs := #[elp (some ⟨g3, 0, none⟩) (0)]) rfl) rfl rfl rfl ?_
  refine wl_r (or_call (fv := []) (vs := [.slice A2_9 (ys.length) (ys.length), .func (.func 85) #[] #[elp (some ⟨g3, 0, none⟩) (0)]]) (cs := []) en84 rfl rfl (call_m (.head) (fun w hw => sortStable_c w _ _ _ A2_9 ys.length c2_9 ys.length ys 85 ([elp (some ⟨g3, 0, none⟩) (0)]) (byDeg xs) rfl (Nat.le_refl _) (by first | assumption | omega | (simp; omega)) en85 (fun x hx y hy ys' w' hw' => greatest1_c w' x y g3 A xs.length c xs ((holds_blk (List.Mem.tail _ (List.Mem.head _))) w' hw') ((holds_old oA) w' hw') rfl lA hs (hi x hx) (hi y hy)) hw))) rfl rfl (kt0 rfl ?_)
  refine wl_nil ?_
  refine ce_then ?_
  refine cw_seq ?_
  refine cw_region ?_
  refine wl_v (ov_move rfl) rfl rfl rfl ?_
  refine wl_v (ov_move rfl) rfl rfl rfl ?_
  refine wl_v (ov_slice_h (h := m) sI23 tI3 rfl rfl hm) rfl rfl rfl ?_
  refine wl_v (ov_assign rfl) rfl rfl rfl ?_
  refine wl_nil ?_
  refine ce_then ?_
  refine cw_ret ?_
  refine ce_results (v := .slice A2_9 (m) (ys.length)) (res1 rfl (rv_t rfl)) (fun w' hw => ?_)
  exact ⟨A2_9, c2_9, h_9, rfl, ((.cons (.head) (.nil) : Keep _ _).ss hw).to_new⟩
set_option maxRecDepth 100000 in
theorem indices_c (w : World) (n : Nat) (but : Int) (hn : n ≤ 1000) : Calls Try.prog 60 #[.int .i64 (((n : Nat) : Int)), .int .i64 (but)] w (Ret fun rv w' => ∃ A2 c2, ((idx n but).length ≤ c2) ∧ rv = .slice A2 ((idx n but).length) (c2) ∧ New w w' [row 3 1 A2 ((idx n but).length) (c2) (cells fI (idx n but))]) := by
  refine fn_enter (args := [.int .i64 (((n : Nat) : Int)), .int .i64 (but)]) Try.func60 rfl Try.ntmps60 rfl (SS.start w) ?_
  refine cw_seq ?_
  refine cw_region ?_
  refine wl_v (ov_assign rfl) rfl rfl rfl ?_
  refine wl_nil ?_
  refine ce_then ?_
  refine cw_seq ?_
  refine cw_region ?_
  refine wl_v (ov_assign rfl) rfl rfl rfl ?_
  refine wl_nil ?_
  refine ce_then ?_
  refine cw_seq ?_
  refine cw_seq ?_
  refine ct_none fI 3 1 ?_
  refine cw_region ?_
  refine wl_v (ov_move rfl) rfl rfl rfl ?_
  refine wl_v (ov_move rfl) rfl rfl rfl ?_
  refine wl_nil ?_
  refine ce_then ?_
  refine cw_block ?_
  refine cw_loop3 (fun (k : Nat) (A : Option Addr) (c : Nat) => [(1, .int .i64 (but)), (4, .slice none (0) (0)), (7, .int .i64 (((n : Nat) : Int))), (5, .slice A ((idx k but).length) (c)), (8, .int .i64 (((k : Nat) : Int)))]) (fun (k : Nat) (A : Option Addr) (c : Nat) => [row 3 1 A ((idx k but).length) (c) (cells fI (idx k but))]) (fun (k : Nat) (A : Option Addr) (c : Nat) => k ≤ n ∧ (idx k but).length ≤ c) (fun (k : Nat) (A : Option Addr) (c : Nat) => n - k) 0 none 0 ⟨by omega, Nat.le_refl _⟩ (.cons rfl (.cons rfl (.cons rfl (.cons rfl (.cons (congrArg (fun z => some (Value.int .i64 z)) (show 0 = ((0 : Nat) : Int) by first | omega | rfl | (simp; done))) (.nil)))))) (.cons (.head) (.nil)) ?_
  intro R0 k A c hk hR0
  obtain ⟨hk1, hk2⟩ := hk
  have hl := idx_len k but
  refine cw_seq ?_
  refine cw_region ?_
  refine wl_if (ov_lss rfl rfl) rfl rfl rfl (fun c9 => ?_) (fun c9 => ?_)
  ·
    refine wl_nil ?_
    refine ce_then ?_
    refine cw_seq ?_
    refine cw_true rfl ?_
    refine cw_skip ?_
    refine ce_then ?_
    refine cw_seq ?_
    refine cw_block ?_
    refine cw_seq ?_
    refine cw_region ?_
    refine wl_v (ov_move rfl) rfl rfl rfl ?_
    refine wl_v (ov_assign rfl) rfl rfl rfl ?_
    refine wl_nil ?_
    refine ce_then ?_
    refine cw_seq ?_
    refine cw_region ?_
    refine wl_v (ov_move rfl) rfl rfl rfl ?_
    refine wl_v (ov_move rfl) rfl rfl rfl ?_
    refine wl_if (ov_neq rfl rfl) rfl rfl rfl (fun c13 => ?_) (fun c13 => ?_)
    ·
      refine wl_nil ?_
      refine ce_then ?_
      refine cw_true rfl ?_
      refine cw_region ?_
      refine wl_v (ov_move rfl) rfl rfl rfl ?_
      refine wl_v (ov_move rfl) rfl rfl rfl ?_
      refine wl_r (or_buildSlice (e := 3) (size := 1) (is := [0]) (vs := [.int .i64 (((k : Nat) : Int))]) (cs := cells fI ([((k : Nat) : Int)])) rfl rfl rfl (by decide) (fun _ => by kernel_rfl)) rfl rfl (kt1 rfl (fun g16 => ?_))
      refine wl_r (or_append (c2 := 1) sI23 tI3 rfl (by decide) rfl rfl (.tail .head) (holds_row (List.Mem.head _)) (by rw [cells_length fI_len]; try simp) (one_cells fI_one _) cells_append (by omega) (by omega)) rfl rfl (kt2p rfl (fun A17 c17 h17 => ?_))
      refine wl_v (ov_assign rfl) rfl rfl rfl ?_
      refine wl_nil ?_
      refine ce_block ?_
      refine ce_then ?_
      refine cw_region ?_
      refine wl_v (ov_add (r := ((k + 1 : Nat) : Int)) rfl rfl rfl (by omega)) rfl rfl rfl ?_
      refine wl_v (ov_move rfl) rfl rfl rfl ?_
      refine wl_nil ?_
      exact fun ac_ w_ hs_ => hR0 (k + 1) A17 c17 ⟨by omega, by rw [idx_succ_ne c13]; simpa using h17⟩ (by omega) ac_ w_ (hs_.weaken (.cons rfl (.cons rfl (.cons rfl (.cons (congrArg (fun z => some (Value.slice A17 z c17)) (show (((idx k but).length) + 1) = ((idx (k + 1) but).length) from by rw [idx_succ_ne c13]; simp)) (.cons rfl (.nil)))))) (.consE (show row 3 1 A17 (((idx k but).length) + 1) (c17) (cells fI ((idx k but) ++ ([((k : Nat) : Int)]))) = row 3 1 A17 ((idx (k + 1) but).length) (c17) (cells fI (idx (k + 1) but)) by rw [idx_succ_ne c13]; simp) (.head) (.nil)))
    ·
      refine wl_nil ?_
      refine ce_then ?_
      refine cw_false rfl ?_
      refine cw_skip ?_
      refine ce_block ?_
      refine ce_then ?_
      refine cw_region ?_
      refine wl_v (ov_add (r := ((k + 1 : Nat) : Int)) rfl rfl rfl (by omega)) rfl rfl rfl ?_
      refine wl_v (ov_move rfl) rfl rfl rfl ?_
      refine wl_nil ?_
      exact fun ac_ w_ hs_ => hR0 (k + 1) A c ⟨by omega, by rw [idx_succ_eq (by omega)]; exact hk2⟩ (by omega) ac_ w_ (hs_.weaken (.cons rfl (.cons rfl (.cons rfl (.cons (congrArg (fun z => some (Value.slice A z c)) (show ((idx k but).length) = ((idx (k + 1) but).length) from by rw [idx_succ_eq (by omega)])) (.cons rfl (.nil)))))) (.consE (show row 3 1 A ((idx k but).length) (c) (cells fI (idx k but)) = row 3 1 A ((idx (k + 1) but).length) (c) (cells fI (idx (k + 1) but)) by rw [idx_succ_eq (by omega)]) (.head) (.nil)))
  ·
    refine wl_nil ?_
    refine ce_then ?_
    refine cw_seq ?_
    refine cw_false rfl ?_
    refine cw_exit ?_
    refine ce_then_exit ?_
    refine ce_then_exit ?_
    refine ce_hit ?_
    refine ce_then ?_
    refine cw_seq ?_
    refine cw_region ?_
    refine wl_v (ov_move rfl) rfl rfl rfl ?_
    refine wl_v (ov_assign rfl) rfl rfl rfl ?_
    refine wl_nil ?_
    refine ce_then ?_
    refine cw_ret ?_
    refine ce_results (v := .slice A ((idx k but).length) (c)) (res1 rfl (rv_t rfl)) (fun w' hw => ?_)
    exact ⟨A, c, (by rw [show n = k from by omega]; exact hk2), (by rw [show n = k from by omega]), ((.consE (show row 3 1 A ((idx k but).length) (c) (cells fI (idx k but)) = row 3 1 A ((idx n but).length) (c) (cells fI (idx n but)) by rw [show n = k from by omega]) (.head) (.nil) : Keep _ _).ss hw).to_new⟩
set_option maxRecDepth 100000 in
theorem greatestS_c (w : World) (A : Option Addr) (n : Nat) (c : Nat) (xs : List (Int)) (v0 : Int) (m : Nat) (hA : At w A (cells fI xs)) (eA : xs.length = n) (lA : n ≤ c) (hs : Small xs) (hm : m ≤ 100) (hv : 0 ≤ v0) : Calls Try.prog 62 #[.slice A (n) (c), .int .i64 (v0), .int .i64 (((m : Nat) : Int))] w (Ret fun rv w' => ∃ A2 c2, (m ≤ c2) ∧ rv = .slice A2 (m) (c2) ∧ New w w' [row 3 1 A2 (m) (c2) (cells fI (gre xs v0 m))]) := by
  have oA := hA.atB
  subst eA
  have hlen := hs.1
  obtain ⟨v, rfl⟩ := Int.eq_ofNat_of_zero_le (hv)
  refine fn_enter (args := [.slice A (xs.length) (c), .int .i64 (((v : Nat) : Int)), .int .i64 (((m : Nat) : Int))]) Try.func62 rfl Try.ntmps62 rfl (SS.start w) ?_
  refine cw_seq ?_
  refine cw_region ?_
  refine wl_v (ov_assign rfl) rfl rfl rfl ?_
  refine wl_nil ?_
  refine ce_then ?_
  refine cw_seq ?_
  refine cw_region ?_
  refine wl_r (or_buildSlice (e := 3) (size := 1) (is := []) (vs := []) (cs := cells fI ([])) rfl rfl rfl (by decide) (fun _ => by kernel_rfl)) rfl rfl (kt1 rfl (fun g10 => ?_))
  refine wl_v (ov_assign rfl) rfl rfl rfl ?_
  refine wl_nil ?_
  refine ce_then ?_
  refine cw_seq ?_
  refine cw_block ?_
  refine cw_loop3 (fun (k : Nat) (A2 : Option Addr) (c2 : Nat) => [(0, .slice A (xs.length) (c)), (1, .int .i64 (((v : Nat) : Int))), (2, .int .i64 (((m : Nat) : Int))), (6, .slice none (0) (0)), (7, .slice A2 (k) (c2))]) (fun (k : Nat) (A2 : Option Addr) (c2 : Nat) => [row 3 1 A2 (k) (c2) (cells fI (gre xs ((v : Nat) : Int) k))]) (fun (k : Nat) (A2 : Option Addr) (c2 : Nat) => k ≤ m ∧ k ≤ c2) (fun (k : Nat) (A2 : Option Addr) (c2 : Nat) => m - k) 0 (some ⟨g10, 0, none⟩) 0 ⟨by omega, Nat.le_refl _⟩ (.cons rfl (.cons rfl (.cons rfl (.cons rfl (.cons rfl (.nil)))))) (.cons (.head) (.nil)) ?_
  intro R0 k A2 c2 hk hR0
  obtain ⟨hk1, hk2⟩ := hk
  refine cw_seq ?_
  refine cw_seq ?_
  refine cw_region ?_
  refine wl_v (ov_move rfl) rfl rfl rfl ?_
  refine wl_v (ov_len (sliceI_spec sI23) rfl) rfl rfl rfl ?_
  refine wl_v (ov_move rfl) rfl rfl rfl ?_
  refine wl_if (ov_lss rfl rfl) rfl rfl rfl (fun c14 => ?_) (fun c14 => ?_)
  ·
    refine wl_nil ?_
    refine ce_then ?_
    refine cw_true rfl ?_
    refine cw_skip ?_
    refine ce_then ?_
    refine cw_block ?_
    refine cw_seq ?_
    refine cw_region ?_
    refine wl_v (ov_assign rfl) rfl rfl rfl ?_
    refine wl_nil ?_
    refine ce_then ?_
    refine cw_seq ?_
    refine cw_seq ?_
    refine cw_region ?_
    refine wl_v (ov_assign rfl) rfl rfl rfl ?_
    refine wl_nil ?_
    refine ce_then ?_
    refine cw_block ?_
    refine cw_loop1 (fun (i : Nat) => [(0, .slice A (xs.length) (c)), (1, .int .i64 (((v : Nat) : Int))), (2, .int .i64 (((m : Nat) : Int))), (6, .slice none (0) (0)), (7, .slice A2 (k) (c2)), (8, .int .i64 (best xs (gre xs ((v : Nat) : Int) k) ((v : Nat) : Int) i)), (9, .int .i64 (((i : Nat) : Int)))]) (fun (i : Nat) => [row 3 1 A2 (k) (c2) (cells fI (gre xs ((v : Nat) : Int) k))]) (fun (i : Nat) => i ≤ xs.length) (fun (i : Nat) => xs.length - i) 0 (by omega) (.cons rfl (.cons rfl (.cons rfl (.cons rfl (.cons rfl (.cons (congrArg (fun z => some (Value.int .i64 z)) (show (-1) = (best xs (gre xs ((v : Nat) : Int) k) ((v : Nat) : Int) 0) from rfl)) (.cons (congrArg (fun z => some (Value.int .i64 z)) (show 0 = ((0 : Nat) : Int) by first | omega | rfl | (simp; done))) (.nil)))))))) (.cons (.head) (.nil)) ?_
    intro R1 i hk1 hR1
    have hb := best_bd xs (gre xs ((v : Nat) : Int) k) ((v : Nat) : Int) i
    refine cw_seq ?_
    refine cw_seq ?_
    refine cw_region ?_
    refine wl_v (ov_move rfl) rfl rfl rfl ?_
    refine wl_v (ov_move rfl) rfl rfl rfl ?_
    refine wl_v (ov_len (sliceI_spec sI23) rfl) rfl rfl rfl ?_
    refine wl_if (ov_lss rfl rfl) rfl rfl rfl (fun c18 => ?_) (fun c18 => ?_)
    ·
      refine wl_nil ?_
      refine ce_then ?_
      refine cw_true rfl ?_
      refine cw_skip ?_
      refine ce_then ?_
      refine cw_seq ?_
      refine cw_block ?_
      refine cw_seq ?_
      refine cw_draw mixO [] (.cons (.head) (.nil)) rfl ?_
      refine wg_takep (i := 0) rfl (ov_move rfl) rfl rfl rfl (by kernel_rfl) (by kernel_rfl) (by kernel_rfl) rfl ?_
      refine wg_takep (i := 1) rfl (ov_move rfl) rfl rfl rfl (by kernel_rfl) (by kernel_rfl) (by kernel_rfl) rfl ?_
      refine wg_takep_if (i := 2) rfl (ov_neq rfl rfl) rfl rfl rfl (by kernel_rfl) (by kernel_rfl) (by kernel_rfl) rfl (fun c23 => ?_) (fun c23 => ?_)
      ·
        refine wg_takep (i := 3) rfl (ov_move rfl) rfl rfl rfl (by kernel_rfl) (by kernel_rfl) (by kernel_rfl) rfl ?_
        refine wg_take_go (i := 4) rfl rfl rfl (ov_move rfl) rfl (by kernel_rfl) (by kernel_rfl) (by kernel_rfl) (by kernel_rfl) ?_
        refine wg_take_go (i := 5) rfl rfl rfl (ov_move rfl) rfl (by kernel_rfl) (by kernel_rfl) (by kernel_rfl) (by kernel_rfl) ?_
        refine wg_one (i := 6) (by kernel_rfl) ?_
        refine go_rg rfl rfl rfl rfl (or_call (fv := []) (vs := [.slice A2 (k) (c2), .int .i64 (((i : Nat) : Int))]) (cs := []) en86 rfl rfl (call_v (fun w hw => hasInt_c w A2 k c2 (gre xs ((v : Nat) : Int) k) ((i : Nat) : Int) ((holds_row (List.Mem.head _)) w hw) (gre_length _ _ _) hk2 (by rw [gre_length]; omega)))) (kt_if rfl (fun c27 => ?_) (fun c27 => ?_))
        ·
          refine gk (.cons (.head) (.nil)) ?_
          refine wg_take_go (i := 7) rfl rfl rfl (ov_not rfl) rfl (by kernel_rfl) (by kernel_rfl) (by kernel_rfl) (by kernel_rfl) ?_
          refine wg_takep (i := 8) rfl (ov_pick_t rfl rfl) rfl rfl rfl (by kernel_rfl) (by kernel_rfl) (by kernel_rfl) rfl ?_
          refine wg_takep (i := 9) rfl (ov_move rfl) rfl rfl rfl (by kernel_rfl) (by kernel_rfl) (by kernel_rfl) rfl ?_
          refine wg_take_not (i := 10) rfl rfl rfl rfl rfl (by kernel_rfl) (by kernel_rfl) (by kernel_rfl) (by kernel_rfl) ?_
          refine wg_take_not (i := 11) rfl rfl rfl rfl rfl (by kernel_rfl) (by kernel_rfl) (by kernel_rfl) (by kernel_rfl) ?_
          refine wg_take_not (i := 12) rfl rfl rfl rfl rfl (by kernel_rfl) (by kernel_rfl) (by kernel_rfl) (by kernel_rfl) ?_
          refine wg_take_notu (i := 13) rfl rfl rfl rfl (by kernel_rfl) (by kernel_rfl) (by kernel_rfl) (by kernel_rfl) ?_
          refine wg_take_notu (i := 14) rfl rfl rfl rfl (by kernel_rfl) (by kernel_rfl) (by kernel_rfl) (by kernel_rfl) ?_
          refine wg_take_notu (i := 15) rfl rfl rfl rfl (by kernel_rfl) (by kernel_rfl) (by kernel_rfl) (by kernel_rfl) ?_
          refine wg_take_notu (i := 16) rfl rfl rfl rfl (by kernel_rfl) (by kernel_rfl) (by kernel_rfl) (by kernel_rfl) ?_
          refine wg_take_notu (i := 17) rfl rfl rfl rfl (by kernel_rfl) (by kernel_rfl) (by kernel_rfl) (by kernel_rfl) ?_
          refine wg_take_notu (i := 18) rfl rfl rfl rfl (by kernel_rfl) (by kernel_rfl) (by kernel_rfl) (by kernel_rfl) ?_
          refine wg_take_notu (i := 19) rfl rfl rfl rfl (by kernel_rfl) (by kernel_rfl) (by kernel_rfl) (by kernel_rfl) ?_
          refine wg_take_notu (i := 20) rfl rfl rfl rfl (by kernel_rfl) (by kernel_rfl) (by kernel_rfl) (by kernel_rfl) ?_
          refine wg_take_notu (i := 21) rfl rfl rfl rfl (by kernel_rfl) (by kernel_rfl) (by kernel_rfl) (by kernel_rfl) ?_
          refine wg_take_not (i := 22) rfl rfl rfl rfl rfl (by kernel_rfl) (by kernel_rfl) (by kernel_rfl) (by kernel_rfl) ?_
          refine wg_takep (i := 23) rfl (ov_pick_f rfl rfl) rfl rfl rfl (by kernel_rfl) (by kernel_rfl) (by kernel_rfl) rfl ?_
          refine wg_done (by kernel_rfl) ?_
          refine ce_then ?_
          refine cw_false rfl ?_
          refine cw_skip ?_
          refine ce_block ?_
          refine ce_then ?_
          refine cw_region ?_
          refine wl_v (ov_move rfl) rfl rfl rfl ?_
          refine wl_v (ov_add (r := ((i + 1 : Nat) : Int)) rfl rfl rfl (by omega)) rfl rfl rfl ?_
          refine wl_v (ov_assign rfl) rfl rfl rfl ?_
          refine wl_nil ?_
          exact fun ac_ w_ hs_ => hR1 (i + 1) (by omega) (by omega) ac_ w_ (hs_.weaken (.cons rfl (.cons rfl (.cons rfl (.cons rfl (.cons rfl (.cons (congrArg (fun z => some (Value.int .i64 z)) (show (best xs (gre xs ((v : Nat) : Int) k) ((v : Nat) : Int) i) = (best xs (gre xs ((v : Nat) : Int) k) ((v : Nat) : Int) (i + 1)) from (by rw [best, if_neg (fun h => h.2.1 c27)]))) (.cons rfl (.nil)))))))) (.cons (.head) (.nil)))
        ·
          refine gk (.cons (.head) (.nil)) ?_
          refine wg_take_go (i := 7) rfl rfl rfl (ov_not rfl) rfl (by kernel_rfl) (by kernel_rfl) (by kernel_rfl) (by kernel_rfl) ?_
          refine wg_takep (i := 8) rfl (ov_pick_t rfl rfl) rfl rfl rfl (by kernel_rfl) (by kernel_rfl) (by kernel_rfl) rfl ?_
          refine wg_takep (i := 9) rfl (ov_move rfl) rfl rfl rfl (by kernel_rfl) (by kernel_rfl) (by kernel_rfl) rfl ?_
          refine wg_take_go (i := 10) rfl rfl rfl (ov_move rfl) rfl (by kernel_rfl) (by kernel_rfl) (by kernel_rfl) (by kernel_rfl) ?_
          refine wg_take_go_if (i := 11) rfl rfl rfl (ov_lss rfl rfl) rfl (by kernel_rfl) (by kernel_rfl) (by kernel_rfl) (by kernel_rfl) (fun c32 => ?_) (fun c32 => ?_)
          ·
            refine wg_take_go (i := 12) rfl rfl rfl (ov_move rfl) rfl (by kernel_rfl) (by kernel_rfl) (by kernel_rfl) (by kernel_rfl) ?_
            refine wg_take_not (i := 13) rfl rfl rfl rfl rfl (by kernel_rfl) (by kernel_rfl) (by kernel_rfl) (by kernel_rfl) ?_
            refine wg_take_not (i := 14) rfl rfl rfl rfl rfl (by kernel_rfl) (by kernel_rfl) (by kernel_rfl) (by kernel_rfl) ?_
            refine wg_take_not (i := 15) rfl rfl rfl rfl rfl (by kernel_rfl) (by kernel_rfl) (by kernel_rfl) (by kernel_rfl) ?_
            refine wg_take_not (i := 16) rfl rfl rfl rfl rfl (by kernel_rfl) (by kernel_rfl) (by kernel_rfl) (by kernel_rfl) ?_
            refine wg_take_not (i := 17) rfl rfl rfl rfl rfl (by kernel_rfl) (by kernel_rfl) (by kernel_rfl) (by kernel_rfl) ?_
            refine wg_take_not (i := 18) rfl rfl rfl rfl rfl (by kernel_rfl) (by kernel_rfl) (by kernel_rfl) (by kernel_rfl) ?_
            refine wg_take_not (i := 19) rfl rfl rfl rfl rfl (by kernel_rfl) (by kernel_rfl) (by kernel_rfl) (by kernel_rfl) ?_
            refine wg_take_not (i := 20) rfl rfl rfl rfl rfl (by kernel_rfl) (by kernel_rfl) (by kernel_rfl) (by kernel_rfl) ?_
            refine wg_take_not (i := 21) rfl rfl rfl rfl rfl (by kernel_rfl) (by kernel_rfl) (by kernel_rfl) (by kernel_rfl) ?_
            refine wg_take_go (i := 22) rfl rfl rfl (ov_pick_t rfl rfl) rfl (by kernel_rfl) (by kernel_rfl) (by kernel_rfl) (by kernel_rfl) ?_
            refine wg_takep (i := 23) rfl (ov_pick_t rfl rfl) rfl rfl rfl (by kernel_rfl) (by kernel_rfl) (by kernel_rfl) rfl ?_
            refine wg_done (by kernel_rfl) ?_
            refine ce_then ?_
            refine cw_true rfl ?_
            refine cw_region ?_
            refine wl_v (ov_move rfl) rfl rfl rfl ?_
            refine wl_v (ov_assign rfl) rfl rfl rfl ?_
            refine wl_nil ?_
            refine ce_block ?_
            refine ce_then ?_
            refine cw_region ?_
            refine wl_v (ov_move rfl) rfl rfl rfl ?_
            refine wl_v (ov_add (r := ((i + 1 : Nat) : Int)) rfl rfl rfl (by omega)) rfl rfl rfl ?_
            refine wl_v (ov_assign rfl) rfl rfl rfl ?_
            refine wl_nil ?_
            exact fun ac_ w_ hs_ => hR1 (i + 1) (by omega) (by omega) ac_ w_ (hs_.weaken (.cons rfl (.cons rfl (.cons rfl (.cons rfl (.cons rfl (.cons (congrArg (fun z => some (Value.int .i64 z)) (show ((i : Nat) : Int) = (best xs (gre xs ((v : Nat) : Int) k) ((v : Nat) : Int) (i + 1)) from (by rw [best, if_pos ⟨by omega, c27, .inl c32⟩]))) (.cons rfl (.nil)))))))) (.cons (.head) (.nil)))
          ·
            refine wg_take_go (i := 12) rfl rfl rfl (ov_move rfl) rfl (by kernel_rfl) (by kernel_rfl) (by kernel_rfl) (by kernel_rfl) ?_
            refine wg_take_go (i := 13) rfl rfl rfl (ov_move rfl) rfl (by kernel_rfl) (by kernel_rfl) (by kernel_rfl) (by kernel_rfl) ?_
            refine wg_take_go (i := 14) rfl rfl rfl (ov_move rfl) rfl (by kernel_rfl) (by kernel_rfl) (by kernel_rfl) (by kernel_rfl) ?_
            refine wg_take_go (i := 15) rfl rfl rfl (ov_index (k := i) (c := c) sI23 tI3 rfl rfl (some_holds (q := i * 1) (holds_old oA) (by rw [cells_length fI_len]; have hlt : i < xs.length := (by first | omega | (simp; omega)); omega)) (show i < xs.length from (by first | omega | (simp; omega)))) rfl (by kernel_rfl) (by kernel_rfl) (by kernel_rfl) (by kernel_rfl) ?_
            refine wg_take_go (i := 16) rfl rfl rfl (ov_load tI3 (holds_old oA) rfl (get_fI (show i < xs.length from (by first | omega | (simp; omega))))) rfl (by kernel_rfl) (by kernel_rfl) (by kernel_rfl) (by kernel_rfl) ?_
            refine wg_take_go (i := 17) rfl rfl rfl (ov_move rfl) rfl (by kernel_rfl) (by kernel_rfl) (by kernel_rfl) (by kernel_rfl) ?_
            refine wg_take_go (i := 18) rfl rfl rfl (ov_move rfl) rfl (by kernel_rfl) (by kernel_rfl) (by kernel_rfl) (by kernel_rfl) ?_
            refine wg_take_go (i := 19) rfl rfl rfl (ov_indexg sI23 tI3 rfl rfl (some_holds (q := ((best xs (gre xs ((v : Nat) : Int) k) ((v : Nat) : Int) i).toNat) * 1) (holds_old oA) (by rw [cells_length fI_len]; have hlt : (best xs (gre xs ((v : Nat) : Int) k) ((v : Nat) : Int) i).toNat < xs.length := (by omega); omega)) (by omega) (show (best xs (gre xs ((v : Nat) : Int) k) ((v : Nat) : Int) i).toNat < xs.length from (by omega))) rfl (by kernel_rfl) (by kernel_rfl) (by kernel_rfl) (by kernel_rfl) ?_
            refine wg_take_go (i := 20) rfl rfl rfl (ov_load tI3 (holds_old oA) rfl (get_fI (show (best xs (gre xs ((v : Nat) : Int) k) ((v : Nat) : Int) i).toNat < xs.length from (by omega)))) rfl (by kernel_rfl) (by kernel_rfl) (by kernel_rfl) (by kernel_rfl) ?_
            refine wg_take_go_if (i := 21) rfl rfl rfl (ov_gtr rfl rfl) rfl (by kernel_rfl) (by kernel_rfl) (by kernel_rfl) (by kernel_rfl) (fun c42 => ?_) (fun c42 => ?_)
            ·
              refine wg_take_go (i := 22) rfl rfl rfl (ov_pick_f rfl rfl) rfl (by kernel_rfl) (by kernel_rfl) (by kernel_rfl) (by kernel_rfl) ?_
              refine wg_takep (i := 23) rfl (ov_pick_t rfl rfl) rfl rfl rfl (by kernel_rfl) (by kernel_rfl) (by kernel_rfl) rfl ?_
              refine wg_done (by kernel_rfl) ?_
              refine ce_then ?_
              refine cw_true rfl ?_
              refine cw_region ?_
              refine wl_v (ov_move rfl) rfl rfl rfl ?_
              refine wl_v (ov_assign rfl) rfl rfl rfl ?_
              refine wl_nil ?_
              refine ce_block ?_
              refine ce_then ?_
              refine cw_region ?_
              refine wl_v (ov_move rfl) rfl rfl rfl ?_
              refine wl_v (ov_add (r := ((i + 1 : Nat) : Int)) rfl rfl rfl (by omega)) rfl rfl rfl ?_
              refine wl_v (ov_assign rfl) rfl rfl rfl ?_
              refine wl_nil ?_
              exact fun ac_ w_ hs_ => hR1 (i + 1) (by omega) (by omega) ac_ w_ (hs_.weaken (.cons rfl (.cons rfl (.cons rfl (.cons rfl (.cons rfl (.cons (congrArg (fun z => some (Value.int .i64 z)) (show ((i : Nat) : Int) = (best xs (gre xs ((v : Nat) : Int) k) ((v : Nat) : Int) (i + 1)) from (by rw [best, if_pos ⟨by omega, c27, .inr c42⟩]))) (.cons rfl (.nil)))))))) (.cons (.head) (.nil)))
            ·
              refine wg_take_go (i := 22) rfl rfl rfl (ov_pick_f rfl rfl) rfl (by kernel_rfl) (by kernel_rfl) (by kernel_rfl) (by kernel_rfl) ?_
              refine wg_takep (i := 23) rfl (ov_pick_t rfl rfl) rfl rfl rfl (by kernel_rfl) (by kernel_rfl) (by kernel_rfl) rfl ?_
              refine wg_done (by kernel_rfl) ?_
              refine ce_then ?_
              refine cw_false rfl ?_
              refine cw_skip ?_
              refine ce_block ?_
              refine ce_then ?_
              refine cw_region ?_
              refine wl_v (ov_move rfl) rfl rfl rfl ?_
              refine wl_v (ov_add (r := ((i + 1 : Nat) : Int)) rfl rfl rfl (by omega)) rfl rfl rfl ?_
              refine wl_v (ov_assign rfl) rfl rfl rfl ?_
              refine wl_nil ?_
              exact fun ac_ w_ hs_ => hR1 (i + 1) (by omega) (by omega) ac_ w_ (hs_.weaken (.cons rfl (.cons rfl (.cons rfl (.cons rfl (.cons rfl (.cons (congrArg (fun z => some (Value.int .i64 z)) (show (best xs (gre xs ((v : Nat) : Int) k) ((v : Nat) : Int) i) = (best xs (gre xs ((v : Nat) : Int) k) ((v : Nat) : Int) (i + 1)) from (by rw [best, if_neg (fun h => h.2.2.elim c32 c42)]))) (.cons rfl (.nil)))))))) (.cons (.head) (.nil)))
      ·
        refine wg_takep (i := 3) rfl (ov_move rfl) rfl rfl rfl (by kernel_rfl) (by kernel_rfl) (by kernel_rfl) rfl ?_
        refine wg_take_not (i := 4) rfl rfl rfl rfl rfl (by kernel_rfl) (by kernel_rfl) (by kernel_rfl) (by kernel_rfl) ?_
        refine wg_take_not (i := 5) rfl rfl rfl rfl rfl (by kernel_rfl) (by kernel_rfl) (by kernel_rfl) (by kernel_rfl) ?_
        refine wg_take_not (i := 6) rfl rfl rfl rfl rfl (by kernel_rfl) (by kernel_rfl) (by kernel_rfl) (by kernel_rfl) ?_
        refine wg_take_not (i := 7) rfl rfl rfl rfl rfl (by kernel_rfl) (by kernel_rfl) (by kernel_rfl) (by kernel_rfl) ?_
        refine wg_takep (i := 8) rfl (ov_pick_f rfl rfl) rfl rfl rfl (by kernel_rfl) (by kernel_rfl) (by kernel_rfl) rfl ?_
        refine wg_takep (i := 9) rfl (ov_move rfl) rfl rfl rfl (by kernel_rfl) (by kernel_rfl) (by kernel_rfl) rfl ?_
        refine wg_take_not (i := 10) rfl rfl rfl rfl rfl (by kernel_rfl) (by kernel_rfl) (by kernel_rfl) (by kernel_rfl) ?_
        refine wg_take_not (i := 11) rfl rfl rfl rfl rfl (by kernel_rfl) (by kernel_rfl) (by kernel_rfl) (by kernel_rfl) ?_
        refine wg_take_not (i := 12) rfl rfl rfl rfl rfl (by kernel_rfl) (by kernel_rfl) (by kernel_rfl) (by kernel_rfl) ?_
        refine wg_take_notu (i := 13) rfl rfl rfl rfl (by kernel_rfl) (by kernel_rfl) (by kernel_rfl) (by kernel_rfl) ?_
        refine wg_take_notu (i := 14) rfl rfl rfl rfl (by kernel_rfl) (by kernel_rfl) (by kernel_rfl) (by kernel_rfl) ?_
        refine wg_take_notu (i := 15) rfl rfl rfl rfl (by kernel_rfl) (by kernel_rfl) (by kernel_rfl) (by kernel_rfl) ?_
        refine wg_take_notu (i := 16) rfl rfl rfl rfl (by kernel_rfl) (by kernel_rfl) (by kernel_rfl) (by kernel_rfl) ?_
        refine wg_take_notu (i := 17) rfl rfl rfl rfl (by kernel_rfl) (by kernel_rfl) (by kernel_rfl) (by kernel_rfl) ?_
        refine wg_take_notu (i := 18) rfl rfl rfl rfl (by kernel_rfl) (by kernel_rfl) (by kernel_rfl) (by kernel_rfl) ?_
        refine wg_take_notu (i := 19) rfl rfl rfl rfl (by kernel_rfl) (by kernel_rfl) (by kernel_rfl) (by kernel_rfl) ?_
        refine wg_take_notu (i := 20) rfl rfl rfl rfl (by kernel_rfl) (by kernel_rfl) (by kernel_rfl) (by kernel_rfl) ?_
        refine wg_take_notu (i := 21) rfl rfl rfl rfl (by kernel_rfl) (by kernel_rfl) (by kernel_rfl) (by kernel_rfl) ?_
        refine wg_take_not (i := 22) rfl rfl rfl rfl rfl (by kernel_rfl) (by kernel_rfl) (by kernel_rfl) (by kernel_rfl) ?_
        refine wg_takep (i := 23) rfl (ov_pick_f rfl rfl) rfl rfl rfl (by kernel_rfl) (by kernel_rfl) (by kernel_rfl) rfl ?_
        refine wg_done (by kernel_rfl) ?_
        refine ce_then ?_
        refine cw_false rfl ?_
        refine cw_skip ?_
        refine ce_block ?_
        refine ce_then ?_
        refine cw_region ?_
        refine wl_v (ov_move rfl) rfl rfl rfl ?_
        refine wl_v (ov_add (r := ((i + 1 : Nat) : Int)) rfl rfl rfl (by omega)) rfl rfl rfl ?_
        refine wl_v (ov_assign rfl) rfl rfl rfl ?_
        refine wl_nil ?_
        exact fun ac_ w_ hs_ => hR1 (i + 1) (by omega) (by omega) ac_ w_ (hs_.weaken (.cons rfl (.cons rfl (.cons rfl (.cons rfl (.cons rfl (.cons (congrArg (fun z => some (Value.int .i64 z)) (show (best xs (gre xs ((v : Nat) : Int) k) ((v : Nat) : Int) i) = (best xs (gre xs ((v : Nat) : Int) k) ((v : Nat) : Int) (i + 1)) from (by rw [best, if_neg (fun h => c23 h.1)]))) (.cons rfl (.nil)))))))) (.cons (.head) (.nil)))
    ·
      refine wl_nil ?_
      refine ce_then ?_
      refine cw_false rfl ?_
      refine cw_exit ?_
      refine ce_then_exit ?_
      refine ce_then_exit ?_
      refine ce_hit ?_
      refine ce_then ?_
      refine cw_region ?_
      refine wl_v (ov_move rfl) rfl rfl rfl ?_
      refine wl_v (ov_move rfl) rfl rfl rfl ?_
      refine wl_r (or_buildSlice (e := 3) (size := 1) (is := [0]) (vs := [.int .i64 (best xs (gre xs ((v : Nat) : Int) k) ((v : Nat) : Int) i)]) (cs := cells fI ([best xs (gre xs ((v : Nat) : Int) k) ((v : Nat) : Int) i])) rfl rfl rfl (by decide) (fun _ => by kernel_rfl)) rfl rfl (kt1 rfl (fun g48 => ?_))
      refine wl_r (or_append (c2 := 1) sI23 tI3 rfl (by decide) rfl rfl (.tail .head) (holds_row (List.Mem.head _)) (by rw [cells_length fI_len]; try simp) (one_cells fI_one _) cells_append (by omega) (by omega)) rfl rfl (kt2p rfl (fun A49 c49 h49 => ?_))
      refine wl_v (ov_assign rfl) rfl rfl rfl ?_
      refine wl_nil ?_
      refine ce_block ?_
      exact fun ac_ w_ hs_ => hR0 (k + 1) A49 c49 ⟨by omega, h49⟩ (by omega) ac_ w_ (hs_.weaken (.cons rfl (.cons rfl (.cons rfl (.cons rfl (.cons rfl (.nil)))))) (.consE (show row 3 1 A49 (k + 1) (c49) (cells fI ((gre xs ((v : Nat) : Int) k) ++ ([best xs (gre xs ((v : Nat) : Int) k) ((v : Nat) : Int) i]))) = row 3 1 A49 ((k + 1)) (c49) (cells fI (gre xs ((v : Nat) : Int) (k + 1))) by rw [gre, show i = xs.length from by omega]) (.head) (.nil)))
  ·
    refine wl_nil ?_
    refine ce_then ?_
    refine cw_false rfl ?_
    refine cw_exit ?_
    refine ce_then_exit ?_
    refine ce_then_exit ?_
    refine ce_hit ?_
    refine ce_then ?_
    refine cw_seq ?_
    refine cw_region ?_
    refine wl_v (ov_move rfl) rfl rfl rfl ?_
    refine wl_v (ov_assign rfl) rfl rfl rfl ?_
    refine wl_nil ?_
    refine ce_then ?_
    refine cw_ret ?_
    refine ce_results (v := .slice A2 (k) (c2)) (res1 rfl (rv_t rfl)) (fun w' hw => ?_)
    exact ⟨A2, c2, (by omega), (by rw [show k = m from by omega]), ((.consE (show row 3 1 A2 (k) (c2) (cells fI (gre xs ((v : Nat) : Int) k)) = row 3 1 A2 (m) (c2) (cells fI (gre xs ((v : Nat) : Int) m)) by rw [show k = m from by omega]) (.head) (.nil) : Keep _ _).ss hw).to_new⟩
end Go.Proofs.Ytholcpgoioaccaa.W3
