/- Walks of functions of the given program: each returns what its Lean function says and leaves the memory that was there as it was. Conditions: those of each theorem. -/
import Derived.Test.YtholcpgoioaccaaSm
import Derived.Test.YtholcpgoioaccaaProg
import Derived.Test.YtholcpgoioaccaaPl
import Derived.Test.YtholcpgoioaccaaPo
import Derived.Test.YtholcpgoioaccaaPd
import Derived.Test.YtholcpgoioaccaaPe
import Derived.Test.YtholcpgoioaccaaPh
import Derived.Test.YtholcpgoioaccaaPm
import Derived.Test.YtholcpgoioaccaaPc
import Derived.Test.YtholcpgoioaccaaPs
import Derived.Test.YtholcpgoioaccaaPt
import Derived.Test.YtholcpgoioaccaaPu
import Derived.Test.YtholcpgoioaccaaPv
import Derived.Test.YtholcpgoioaccaaSo
import Derived.Test.YtholcpgoioaccaaSh
import Derived.Test.YtholcpgoioaccaaT
import Derived.Test.YtholcpgoioaccaaW1
import Derived.Test.YtholcpgoioaccaaW10
import Derived.Test.YtholcpgoioaccaaW11
import Derived.KernelRfl
namespace Go.Proofs.Ytholcpgoioaccaa.W30
open Go.Sx Go.RowKit Go.Proofs.Ytholcpgoioaccaa.T Go.Proofs.Ytholcpgoioaccaa.W1 Go.Proofs.Ytholcpgoioaccaa.W10 Go.Proofs.Ytholcpgoioaccaa.W11
open Go.Plain
set_option linter.unusedVariables false
set_option maxRecDepth 100000 in
theorem aMatrix_c (w w0 : World) (Bd : Nat) (F : List Ent) (a : Nat) (b : Nat) (g : Nat) (Ar : Option Addr) (nr : Nat) (cr : Nat) (bs : List Nat) (p : Nat) (hAr : Holds (SS w0 Bd F) Ar (cells fY bs)) (eAr : bs.length = nr) (lAr : nr ≤ cr) (hy : nr ≤ 2000 ∧ (∀ x ∈ bs, x < 256) ∧ p ≤ 99000) (hab : a ≤ 5 ∧ b ≤ 5) (hss : SS w0 Bd ((blk g [.slice Ar (nr) (cr), .int .i64 (((p : Nat) : Int))] 59) :: F) w) : Calls Try.prog 72 #[elp (some ⟨g, 0, none⟩) (0), .int .i64 (((a : Nat) : Int)), .int .i64 (((b : Nat) : Int))] w (Ret fun rv w' => ∃ A2 c2 hs2 m q, ((m.length ≤ c2 ∧ m.length = a ∧ M01 b m) ∧ p ≤ q ∧ q ≤ p + 25) ∧ rv = .slice A2 (m.length) (c2) ∧ SS w0 Bd ((row 23 1 A2 (m.length) (c2) (cells fL hs2)) :: (nest 3 1 fI hs2 m) :: (blk g [.slice Ar (nr) (cr), .int .i64 (((q : Nat) : Int))] 59) :: F) w') := by
  refine fn_enter (args := [elp (some ⟨g, 0, none⟩) (0), .int .i64 (((a : Nat) : Int)), .int .i64 (((b : Nat) : Int))]) Try.func72 rfl Try.ntmps72 rfl hss ?_
  refine cw_seq ?_
  refine cw_region ?_
  refine wl_v (ov_assign rfl) rfl rfl rfl ?_
  refine wl_nil ?_
  refine ce_then ?_
  refine cw_seq ?_
  refine cw_region ?_
  refine wl_r (or_buildSlice (e := 23) (size := 1) (is := []) (vs := []) (cs := cells fL ([])) rfl rfl rfl (by decide) (fun _ => by kernel_rfl)) rfl rfl (kt1 rfl (fun g11 => ?_))
  refine wl_v (ov_assign rfl) rfl rfl rfl ?_
  refine wl_nil ?_
  refine ce_then ?_
  refine cw_seq ?_
  refine cw_seq ?_
  refine ct_nest0 3 1 fI ?_
  refine cw_region ?_
  refine wl_v (ov_assign rfl) rfl rfl rfl ?_
  refine wl_nil ?_
  refine ce_then ?_
  refine cw_block ?_
  refine cw_loop6 (fun (i : Nat) (A3 : Option Addr) (c3 : Nat) (hs3 : List Hd) (m : Mat) (q : Nat) => [(0, elp (some ⟨g, 0, none⟩) (0)), (1, .int .i64 (((a : Nat) : Int))), (2, .int .i64 (((b : Nat) : Int))), (6, .slice none (0) (0)), (7, .slice A3 (m.length) (c3)), (8, .int .i64 (((i : Nat) : Int)))]) (fun (i : Nat) (A3 : Option Addr) (c3 : Nat) (hs3 : List Hd) (m : Mat) (q : Nat) => (nest 3 1 fI hs3 m) :: (row 23 1 A3 (m.length) (c3) (cells fL hs3)) :: (blk g [.slice Ar (nr) (cr), .int .i64 (((q : Nat) : Int))] 59) :: F) (fun (i : Nat) (A3 : Option Addr) (c3 : Nat) (hs3 : List Hd) (m : Mat) (q : Nat) => i ≤ a ∧ m.length ≤ c3 ∧ m.length = i ∧ (∀ r ∈ m, r.length = b ∧ ∀ x ∈ r, 0 ≤ x ∧ x ≤ 1) ∧ p ≤ q ∧ q ≤ p + 5 * i) (fun (i : Nat) (A3 : Option Addr) (c3 : Nat) (hs3 : List Hd) (m : Mat) (q : Nat) => a - i) 0 (some ⟨g11, 0, none⟩) 0 ([]) ([]) p ⟨by omega, Nat.le_refl _, rfl, fun r hr => (by cases hr), by omega, by omega⟩ (.cons rfl (.cons rfl (.cons rfl (.cons rfl (.cons rfl (.cons (congrArg (fun z => some (Value.int .i64 z)) (show 0 = ((0 : Nat) : Int) by first | omega | rfl | (simp; done))) (.nil))))))) (.cons (.head) (.cons (.head) (.cons (.head) (.refl)))) ?_
  intro R0 i A3 c3 hs3 m q hk hR0
  obtain ⟨hk1, hk2, hk3, hk4, hk5, hk6⟩ := hk
  refine cw_seq ?_
  refine cw_seq ?_
  refine cw_region ?_
  refine wl_v (ov_move rfl) rfl rfl rfl ?_
  refine wl_v (ov_move rfl) rfl rfl rfl ?_
  refine wl_if (ov_lss rfl rfl) rfl rfl rfl (fun c14 => ?_) (fun c14 => ?_)
  ·
    refine wl_nil ?_
    refine ce_then ?_
    refine cw_true rfl ?_
    refine cw_skip ?_
    refine ce_then ?_
    refine cw_seq ?_
    refine cw_block ?_
    refine cw_seq ?_
    refine cw_region ?_
    refine wl_r (or_buildSlice (e := 3) (size := 1) (is := []) (vs := []) (cs := cells fI ([])) rfl rfl rfl (by decide) (fun _ => by kernel_rfl)) rfl rfl (kt1 rfl (fun g17 => ?_))
    refine wl_v (ov_assign rfl) rfl rfl rfl ?_
    refine wl_nil ?_
    refine ce_then ?_
    refine cw_seq ?_
    refine cw_seq ?_
    refine cw_region ?_
    refine wl_v (ov_assign rfl) rfl rfl rfl ?_
    refine wl_nil ?_
    refine ce_then ?_
    refine cw_block ?_
    refine cw_loop5 (fun (k : Nat) (A4 : Option Addr) (c4 : Nat) (rw : List Int) (q2 : Nat) => [(0, elp (some ⟨g, 0, none⟩) (0)), (1, .int .i64 (((a : Nat) : Int))), (2, .int .i64 (((b : Nat) : Int))), (6, .slice none (0) (0)), (7, .slice A3 (m.length) (c3)), (8, .int .i64 (((i : Nat) : Int))), (9, .slice A4 (rw.length) (c4)), (10, .int .i64 (((k : Nat) : Int)))]) (fun (k : Nat) (A4 : Option Addr) (c4 : Nat) (rw : List Int) (q2 : Nat) => (row 3 1 A4 (rw.length) (c4) (cells fI rw)) :: (nest 3 1 fI hs3 m) :: (row 23 1 A3 (m.length) (c3) (cells fL hs3)) :: (blk g [.slice Ar (nr) (cr), .int .i64 (((q2 : Nat) : Int))] 59) :: F) (fun (k : Nat) (A4 : Option Addr) (c4 : Nat) (rw : List Int) (q2 : Nat) => (k ≤ b ∧ rw.length = k) ∧ rw.length ≤ c4 ∧ (∀ x ∈ rw, 0 ≤ x ∧ x ≤ 1) ∧ q ≤ q2 ∧ q2 ≤ q + k) (fun (k : Nat) (A4 : Option Addr) (c4 : Nat) (rw : List Int) (q2 : Nat) => b - k) 0 (some ⟨g17, 0, none⟩) 0 ([]) q ⟨⟨by omega, rfl⟩, Nat.le_refl _, fun x hx => (by cases hx), by omega, by omega⟩ (.cons rfl (.cons rfl (.cons rfl (.cons rfl (.cons rfl (.cons rfl (.cons rfl (.cons (congrArg (fun z => some (Value.int .i64 z)) (show 0 = ((0 : Nat) : Int) by first | omega | rfl | (simp; done))) (.nil))))))))) (.cons (.head) (.cons (.head) (.cons (.head) (.cons (.head) (.refl))))) ?_
    intro R1 k A4 c4 rw q2 hk1 hR1
    obtain ⟨⟨hj1, hjl⟩, hj2, hj3, hj4, hj5⟩ := hk1
    refine cw_seq ?_
    refine cw_seq ?_
    refine cw_region ?_
    refine wl_v (ov_move rfl) rfl rfl rfl ?_
    refine wl_v (ov_move rfl) rfl rfl rfl ?_
    refine wl_if (ov_lss rfl rfl) rfl rfl rfl (fun c20 => ?_) (fun c20 => ?_)
    ·
      refine wl_nil ?_
      refine ce_then ?_
      refine cw_true rfl ?_
      refine cw_skip ?_
      refine ce_then ?_
      refine cw_seq ?_
      refine cw_block ?_
      refine cw_region ?_
      refine wl_v (ov_move rfl) rfl rfl rfl ?_
      refine wl_v (ov_move rfl) rfl rfl rfl ?_
      refine wl_r (or_call (fv := []) (vs := [elp (some ⟨g, 0, none⟩) (0), .int .i64 (2)]) (cs := []) en73 rfl rfl (call_o (.cons (.tail (.tail (.tail .head))) (.cons (.head) (.cons (.head) (.cons (.head) (.refl))))) (fun w hw => pick_c w _ _ _ 2 g Ar nr cr bs q2 (Holds.keepF hAr ((.drop (.drop (.drop .refl))))) (by first | rfl | assumption | (simp; done) | (simp; omega)) lAr ⟨hy.1, hy.2.1, by omega⟩ (by first | assumption | omega | (simp; omega)) hw))) rfl rfl (kt1p rfl (fun v_25 h_25 => ?_))
      refine wl_r (or_buildSlice (e := 3) (size := 1) (is := [0]) (vs := [.int .i64 (v_25)]) (cs := cells fI ([v_25])) rfl rfl rfl (by decide) (fun _ => by kernel_rfl)) rfl rfl (kt1 rfl (fun g26 => ?_))
      refine wl_r (or_append (c2 := 1) sI23 tI3 rfl (by decide) rfl rfl (.tail (.tail .head)) (holds_row (List.Mem.head _)) (by rw [cells_length fI_len]; try simp) (one_cells fI_one _) cells_append (by omega) (by omega)) rfl rfl (kt2p rfl (fun A27 c27 h27 => ?_))
      refine wl_v (ov_assign rfl) rfl rfl rfl ?_
      refine wl_nil ?_
      refine ce_block ?_
      refine ce_then ?_
      refine cw_region ?_
      refine wl_v (ov_move rfl) rfl rfl rfl ?_
      refine wl_v (ov_add (r := ((k + 1 : Nat) : Int)) rfl rfl rfl (by omega)) rfl rfl rfl ?_
      refine wl_v (ov_assign rfl) rfl rfl rfl ?_
      refine wl_nil ?_
      exact fun ac_ w_ hs_ => hR1 (k + 1) A27 c27 (rw ++ ([v_25])) (q2 + 1) ⟨⟨by omega, by rw [List.length_append, hjl]; rfl⟩, by rw [List.length_append]; exact h27, fun x hx => (by rcases List.mem_append.1 hx with h | h; exact hj3 x h; simp only [List.mem_singleton] at h; subst h; simp at h_25; omega), by omega, by omega⟩ (by omega) ac_ w_ (hs_.weaken (.cons rfl (.cons rfl (.cons rfl (.cons rfl (.cons rfl (.cons rfl (.cons (congrArg (fun z => some (Value.slice A27 z c27)) (show (rw.length + 1) = ((rw ++ ([v_25])).length) from (by rw [List.length_append]; rfl))) (.cons rfl (.nil))))))))) (.consE (show row 3 1 A27 (rw.length + 1) (c27) (cells fI (rw ++ ([v_25]))) = row 3 1 A27 ((rw ++ ([v_25])).length) (c27) (cells fI (rw ++ ([v_25]))) by rw [List.length_append]; rfl) (.head) (.cons (.tail (.tail .head)) (.cons (.tail (.tail .head)) (.cons (.tail .head) ((.drop .refl)))))))
    ·
      refine wl_nil ?_
      refine ce_then ?_
      refine cw_false rfl ?_
      refine cw_exit ?_
      refine ce_then_exit ?_
      refine ce_then_exit ?_
      refine ce_hit ?_
      refine ce_then ?_
      refine cw_region ?_
      refine wl_v (ov_move rfl) rfl rfl rfl ?_
      refine wl_v (ov_move rfl) rfl rfl rfl ?_
      refine wl_r (or_buildSlice (e := 23) (size := 1) (is := [0]) (vs := [.slice A4 (rw.length) (c4)]) (cs := cells fL ([(A4, rw.length, c4)])) rfl rfl rfl (by decide) (fun _ => by kernel_rfl)) rfl rfl (kt1 rfl (fun g30 => ?_))
      refine wl_r (or_append (c2 := 1) sI33 tI23 rfl (by decide) rfl rfl (.tail (.tail (.tail .head))) (holds_row (List.Mem.head _)) (by rw [cells_length fL_len]; try simp) (one_cells fL_one _) cells_append (by omega) (by omega)) rfl rfl (kt2p rfl (fun A31 c31 h31 => ?_))
      refine ct_push (k := c4) (.cons (.tail (.tail (.tail .head))) (.cons (.tail (.tail .head)) (.cons (.head) (.cons (.head) (.cons (.head) (.refl)))))) (rfl) (hj2) ?_
      refine wl_v (ov_assign rfl) rfl rfl rfl ?_
      refine wl_nil ?_
      refine ce_block ?_
      refine ce_then ?_
      refine cw_region ?_
      refine wl_v (ov_move rfl) rfl rfl rfl ?_
      refine wl_v (ov_add (r := ((i + 1 : Nat) : Int)) rfl rfl rfl (by omega)) rfl rfl rfl ?_
      refine wl_v (ov_assign rfl) rfl rfl rfl ?_
      refine wl_nil ?_
      exact fun ac_ w_ hs_ => hR0 (i + 1) A31 c31 (hs3 ++ ([(A4, rw.length, c4)])) (m ++ [rw]) q2 ⟨by omega, by rw [List.length_append]; exact h31, by rw [List.length_append, hk3]; rfl, fun r hr => (by rcases List.mem_append.1 hr with h | h; exact hk4 r h; simp only [List.mem_singleton] at h; subst h; exact ⟨by omega, hj3⟩), by omega, by omega⟩ (by omega) ac_ w_ (hs_.weaken (.cons rfl (.cons rfl (.cons rfl (.cons rfl (.cons (congrArg (fun z => some (Value.slice A31 z c31)) (show (m.length + 1) = ((m ++ [rw]).length) from (by rw [List.length_append]; rfl))) (.cons rfl (.nil))))))) (.cons (.head) (.consE (show row 23 1 A31 (m.length + 1) (c31) (cells fL (hs3 ++ ([(A4, rw.length, c4)]))) = row 23 1 A31 ((m ++ [rw]).length) (c31) (cells fL (hs3 ++ ([(A4, rw.length, c4)]))) by rw [List.length_append]; rfl) (.head) (.cons (.tail .head) ((.drop .refl))))))
  ·
    refine wl_nil ?_
    refine ce_then ?_
    refine cw_false rfl ?_
    refine cw_exit ?_
    refine ce_then_exit ?_
    refine ce_then_exit ?_
    refine ce_hit ?_
    refine ce_then ?_
    refine cw_seq ?_
    refine cw_region ?_
    refine wl_v (ov_move rfl) rfl rfl rfl ?_
    refine wl_v (ov_assign rfl) rfl rfl rfl ?_
    refine wl_nil ?_
    refine ce_then ?_
    refine cw_ret ?_
    refine ce_results (v := .slice A3 (m.length) (c3)) (res1 rfl (rv_t rfl)) (fun w' hw => ?_)
    exact ⟨A3, c3, hs3, m, q, ⟨⟨hk2, by omega, hk4⟩, by omega, by omega⟩, rfl, ((.cons (.tail .head) (.cons (.head) (.cons (.head) (.refl))) : Keep _ _).ss hw)⟩
set_option maxRecDepth 100000 in
theorem rowSums_c (w : World) (A : Option Addr) (n : Nat) (c : Nat) (hs : List Hd) (xss : List (List Int)) (hA : At w A (cells fL hs)) (eA : xss.length = n) (lA : n ≤ c) (fA : NestF hs xss) (mA : Mx w hs xss) (hsz : xss.length ≤ 1000 ∧ ∀ r ∈ xss, Small r) : Calls Try.prog 67 #[.slice A (n) (c)] w (Ret fun rv w' => ∃ A2 c2, ((rsum xss).length ≤ c2) ∧ rv = .slice A2 ((rsum xss).length) (c2) ∧ New w w' [row 3 1 A2 ((rsum xss).length) (c2) (cells fI (rsum xss))]) := by
  have oA := hA.atB
  subst eA
  have flA := fA.1
  have omA := Mx.atB mA
  refine fn_enter (args := [.slice A (xss.length) (c)]) Try.func67 rfl Try.ntmps67 rfl (SS.start w) ?_
  refine cw_seq ?_
  refine cw_region ?_
  refine wl_v (ov_assign rfl) rfl rfl rfl ?_
  refine wl_nil ?_
  refine ce_then ?_
  refine cw_seq ?_
  refine cw_region ?_
  refine wl_r (or_buildSlice (e := 3) (size := 1) (is := []) (vs := []) (cs := cells fI ([])) rfl rfl rfl (by decide) (fun _ => by kernel_rfl)) rfl rfl (kt1 rfl (fun g5 => ?_))
  refine wl_v (ov_assign rfl) rfl rfl rfl ?_
  refine wl_nil ?_
  refine ce_then ?_
  refine cw_seq ?_
  refine cw_seq ?_
  refine cw_region ?_
  refine wl_v (ov_assign rfl) rfl rfl rfl ?_
  refine wl_nil ?_
  refine ce_then ?_
  refine cw_block ?_
  refine cw_loop3 (fun (k : Nat) (A2 : Option Addr) (c2 : Nat) => [(0, .slice A (xss.length) (c)), (2, .slice none (0) (0)), (3, .slice A2 ((rsum (xss.take k)).length) (c2)), (4, .int .i64 (((k : Nat) : Int)))]) (fun (k : Nat) (A2 : Option Addr) (c2 : Nat) => [row 3 1 A2 ((rsum (xss.take k)).length) (c2) (cells fI (rsum (xss.take k)))]) (fun (k : Nat) (A2 : Option Addr) (c2 : Nat) => k ≤ xss.length ∧ (rsum (xss.take k)).length ≤ c2) (fun (k : Nat) (A2 : Option Addr) (c2 : Nat) => xss.length - k) 0 (some ⟨g5, 0, none⟩) 0 ⟨by omega, Nat.le_refl _⟩ (.cons rfl (.cons rfl (.cons (congrArg (fun z => some (Value.slice (some ⟨g5, 0, none⟩) z 0)) (show 0 = ((rsum (xss.take 0)).length) from rfl)) (.cons (congrArg (fun z => some (Value.int .i64 z)) (show 0 = ((0 : Nat) : Int) by first | omega | rfl | (simp; done))) (.nil))))) (.consE (show row 3 1 (some ⟨g5, 0, none⟩) (0) (0) (cells fI ([])) = row 3 1 (some ⟨g5, 0, none⟩) ((rsum (xss.take 0)).length) (0) (cells fI (rsum (xss.take 0))) by rfl) (.head) (.nil)) ?_
  intro R0 k A2 c2 hk hR0
  obtain ⟨hk1, hk2⟩ := hk
  have hrl : (rsum (xss.take k)).length = k := by rw [rsum_len, List.length_take]; omega
  refine cw_seq ?_
  refine cw_seq ?_
  refine cw_region ?_
  refine wl_v (ov_move rfl) rfl rfl rfl ?_
  refine wl_v (ov_move rfl) rfl rfl rfl ?_
  refine wl_v (ov_len (sliceI_spec sI33) rfl) rfl rfl rfl ?_
  refine wl_if (ov_lss rfl rfl) rfl rfl rfl (fun c9 => ?_) (fun c9 => ?_)
  ·
    refine wl_nil ?_
    refine ce_then ?_
    refine cw_true rfl ?_
    refine cw_skip ?_
    refine ce_then ?_
    refine cw_seq ?_
    refine cw_block ?_
    refine cw_region ?_
    refine wl_v (ov_move rfl) rfl rfl rfl ?_
    refine wl_v (ov_move rfl) rfl rfl rfl ?_
    refine wl_v (ov_move rfl) rfl rfl rfl ?_
    refine wl_v (ov_index (k := k) (c := c) sI33 tI23 rfl rfl (some_holds (q := k * 1) (holds_old oA) (by rw [cells_length fL_len]; have hlt : k < hs.length := (by first | omega | (simp; omega)); omega)) (show k < xss.length from (by first | omega | (simp; omega)))) rfl rfl rfl ?_
    refine wl_v (ov_load tI23 (holds_old oA) rfl (get_fLn fA (show k < xss.length from (by first | omega | (simp; omega))))) rfl rfl rfl ?_
    refine wl_r (or_call (fv := []) (vs := [.slice ((hs.getD k (none, 0, 0)).1) ((xss.getD k []).length) ((hs.getD k (none, 0, 0)).2.2)]) (cs := []) en64 rfl rfl (call_v (fun w hw => sum_c w ((hs.getD k (none, 0, 0)).1) ((xss.getD k []).length) ((hs.getD k (none, 0, 0)).2.2) (xss.getD k []) ((mx_at (mx_old omA) (show k < xss.length from (by first | omega | (simp; omega)))) w hw) rfl (fA.2 k (show k < xss.length from (by first | omega | (simp; omega)))).2 (hsz.2 _ (getD_mem [] (by omega)))))) rfl rfl (kt0 rfl ?_)
    refine wl_r (or_buildSlice (e := 3) (size := 1) (is := [0]) (vs := [.int .i64 (total (xss.getD k []))]) (cs := cells fI ([total (xss.getD k [])])) rfl rfl rfl (by decide) (fun _ => by kernel_rfl)) rfl rfl (kt1 rfl (fun g18 => ?_))
    refine wl_r (or_append (c2 := 1) sI23 tI3 rfl (by decide) rfl rfl (.tail .head) (holds_row (List.Mem.head _)) (by rw [cells_length fI_len]; try simp) (one_cells fI_one _) cells_append (by omega) (by omega)) rfl rfl (kt2p rfl (fun A19 c19 h19 => ?_))
    refine wl_v (ov_assign rfl) rfl rfl rfl ?_
    refine wl_nil ?_
    refine ce_block ?_
    refine ce_then ?_
    refine cw_region ?_
    refine wl_v (ov_move rfl) rfl rfl rfl ?_
    refine wl_v (ov_add (r := ((k + 1 : Nat) : Int)) rfl rfl rfl (by omega)) rfl rfl rfl ?_
    refine wl_v (ov_assign rfl) rfl rfl rfl ?_
    refine wl_nil ?_
    exact fun ac_ w_ hs_ => hR0 (k + 1) A19 c19 ⟨by omega, by rw [rsum_take (by omega), List.length_append]; exact h19⟩ (by omega) ac_ w_ (hs_.weaken (.cons rfl (.cons rfl (.cons (congrArg (fun z => some (Value.slice A19 z c19)) (show (((rsum (xss.take k)).length) + 1) = ((rsum (xss.take (k + 1))).length) from (by rw [rsum_take (by omega), List.length_append]; rfl))) (.cons rfl (.nil))))) (.consE (show row 3 1 A19 (((rsum (xss.take k)).length) + 1) (c19) (cells fI ((rsum (xss.take k)) ++ ([total (xss.getD k [])]))) = row 3 1 A19 ((rsum (xss.take (k + 1))).length) (c19) (cells fI (rsum (xss.take (k + 1)))) by rw [rsum_take (by omega)]; exact row_eq (by rw [List.length_append]; rfl) rfl) (.head) (.nil)))
  ·
    refine wl_nil ?_
    refine ce_then ?_
    refine cw_false rfl ?_
    refine cw_exit ?_
    refine ce_then_exit ?_
    refine ce_then_exit ?_
    refine ce_hit ?_
    refine ce_then ?_
    refine cw_seq ?_
    refine cw_region ?_
    refine wl_v (ov_move rfl) rfl rfl rfl ?_
    refine wl_v (ov_assign rfl) rfl rfl rfl ?_
    refine wl_nil ?_
    refine ce_then ?_
    refine cw_ret ?_
    refine ce_results (v := .slice A2 ((rsum (xss.take k)).length) (c2)) (res1 rfl (rv_t rfl)) (fun w' hw => ?_)
    exact ⟨A2, c2, (by rw [← List.take_of_length_le (show xss.length ≤ k by omega)]; exact hk2), (by rw [List.take_of_length_le (show xss.length ≤ k by omega)]), ((.consE (show row 3 1 A2 ((rsum (xss.take k)).length) (c2) (cells fI (rsum (xss.take k))) = row 3 1 A2 ((rsum xss).length) (c2) (cells fI (rsum xss)) by rw [List.take_of_length_le (show xss.length ≤ k by omega)]) (.head) (.nil) : Keep _ _).ss hw).to_new⟩
set_option maxRecDepth 100000 in
theorem transposeS_c (w : World) (A : Option Addr) (n : Nat) (c : Nat) (hs : List Hd) (xss : List (List Int)) (hA : At w A (cells fL hs)) (eA : xss.length = n) (lA : n ≤ c) (fA : NestF hs xss) (mA : Mx w hs xss) (hr : ∀ r ∈ xss, r.length = colsN xss) (h1 : 1 ≤ xss.length ∧ xss.length ≤ 100 ∧ colsN xss ≤ 100) : Calls Try.prog 68 #[.slice A (n) (c)] w (Ret fun rv w' => ∃ A2 c2 hs2, ((trM xss).length ≤ c2 ∧ True) ∧ rv = .slice A2 ((trM xss).length) (c2) ∧ New w w' [row 23 1 A2 ((trM xss).length) (c2) (cells fL hs2), nest 3 1 fI hs2 (trM xss)]) := by
  have oA := hA.atB
  subst eA
  have flA := fA.1
  have omA := Mx.atB mA
  refine fn_enter (args := [.slice A (xss.length) (c)]) Try.func68 rfl Try.ntmps68 rfl (SS.start w) ?_
  refine cw_seq ?_
  refine cw_region ?_
  refine wl_v (ov_assign rfl) rfl rfl rfl ?_
  refine wl_nil ?_
  refine ce_then ?_
  refine cw_seq ?_
  refine cw_region ?_
  refine wl_r (or_buildSlice (e := 23) (size := 1) (is := []) (vs := []) (cs := cells fL ([])) rfl rfl rfl (by decide) (fun _ => by kernel_rfl)) rfl rfl (kt1 rfl (fun g7 => ?_))
  refine wl_v (ov_assign rfl) rfl rfl rfl ?_
  refine wl_nil ?_
  refine ce_then ?_
  refine cw_seq ?_
  refine cw_seq ?_
  refine ct_nest0 3 1 fI ?_
  refine cw_region ?_
  refine wl_v (ov_assign rfl) rfl rfl rfl ?_
  refine wl_nil ?_
  refine ce_then ?_
  refine cw_block ?_
  refine cw_loop4 (fun (k : Nat) (A3 : Option Addr) (c3 : Nat) (hs3 : List Hd) => [(0, .slice A (xss.length) (c)), (2, .slice none (0) (0)), (3, .slice A3 (k) (c3)), (4, .int .i64 (((k : Nat) : Int)))]) (fun (k : Nat) (A3 : Option Addr) (c3 : Nat) (hs3 : List Hd) => [nest 3 1 fI hs3 (trTo xss k), row 23 1 A3 (k) (c3) (cells fL hs3)]) (fun (k : Nat) (A3 : Option Addr) (c3 : Nat) (hs3 : List Hd) => k ≤ colsN xss ∧ k ≤ c3) (fun (k : Nat) (A3 : Option Addr) (c3 : Nat) (hs3 : List Hd) => colsN xss - k) 0 (some ⟨g7, 0, none⟩) 0 ([]) ⟨by omega, Nat.le_refl _⟩ (.cons rfl (.cons rfl (.cons rfl (.cons (congrArg (fun z => some (Value.int .i64 z)) (show 0 = ((0 : Nat) : Int) by first | omega | rfl | (simp; done))) (.nil))))) (.consE (show nest 3 1 fI ([]) ([]) = nest 3 1 fI ([]) (trTo xss 0) by rfl) (.head) (.consE (show row 23 1 (some ⟨g7, 0, none⟩) (0) (0) (cells fL ([])) = row 23 1 (some ⟨g7, 0, none⟩) (0) (0) (cells fL ([])) by rfl) (.head) (.nil))) ?_
  intro R0 k A3 c3 hs3 hk hR0
  obtain ⟨hk1, hk2⟩ := hk
  have hcl : (xss.getD 0 []).length = colsN xss := rfl
  refine cw_seq ?_
  refine cw_seq ?_
  refine cw_region ?_
  refine wl_v (ov_move rfl) rfl rfl rfl ?_
  refine wl_v (ov_move rfl) rfl rfl rfl ?_
  refine wl_v (ov_index (k := 0) (c := c) sI33 tI23 rfl rfl (some_holds (q := 0 * 1) (holds_old oA) (by rw [cells_length fL_len]; have hlt : 0 < hs.length := (by omega); omega)) (show 0 < xss.length from (by omega))) rfl rfl rfl ?_
  refine wl_v (ov_load tI23 (holds_old oA) rfl (get_fLn fA (show 0 < xss.length from (by omega)))) rfl rfl rfl ?_
  refine wl_v (ov_len (sliceI_spec sI23) rfl) rfl rfl rfl ?_
  refine wl_if (ov_lss rfl rfl) rfl rfl rfl (fun c13 => ?_) (fun c13 => ?_)
  ·
    refine wl_nil ?_
    refine ce_then ?_
    refine cw_true rfl ?_
    refine cw_skip ?_
    refine ce_then ?_
    refine cw_seq ?_
    refine cw_block ?_
    refine cw_seq ?_
    refine cw_region ?_
    refine wl_r (or_buildSlice (e := 3) (size := 1) (is := []) (vs := []) (cs := cells fI ([])) rfl rfl rfl (by decide) (fun _ => by kernel_rfl)) rfl rfl (kt1 rfl (fun g16 => ?_))
    refine wl_v (ov_assign rfl) rfl rfl rfl ?_
    refine wl_nil ?_
    refine ce_then ?_
    refine cw_seq ?_
    refine cw_seq ?_
    refine cw_region ?_
    refine wl_v (ov_assign rfl) rfl rfl rfl ?_
    refine wl_nil ?_
    refine ce_then ?_
    refine cw_block ?_
    refine cw_loop3 (fun (i : Nat) (A4 : Option Addr) (c4 : Nat) => [(0, .slice A (xss.length) (c)), (2, .slice none (0) (0)), (3, .slice A3 (k) (c3)), (4, .int .i64 (((k : Nat) : Int))), (5, .slice A4 (i) (c4)), (6, .int .i64 (((i : Nat) : Int)))]) (fun (i : Nat) (A4 : Option Addr) (c4 : Nat) => [row 3 1 A4 (i) (c4) (cells fI (colTo xss k i)), nest 3 1 fI hs3 (trTo xss k), row 23 1 A3 (k) (c3) (cells fL hs3)]) (fun (i : Nat) (A4 : Option Addr) (c4 : Nat) => i ≤ xss.length ∧ i ≤ c4) (fun (i : Nat) (A4 : Option Addr) (c4 : Nat) => xss.length - i) 0 (some ⟨g16, 0, none⟩) 0 ⟨by omega, Nat.le_refl _⟩ (.cons rfl (.cons rfl (.cons rfl (.cons rfl (.cons rfl (.cons (congrArg (fun z => some (Value.int .i64 z)) (show 0 = ((0 : Nat) : Int) by first | omega | rfl | (simp; done))) (.nil))))))) (.consE (show row 3 1 (some ⟨g16, 0, none⟩) (0) (0) (cells fI ([])) = row 3 1 (some ⟨g16, 0, none⟩) (0) (0) (cells fI (colTo xss k 0)) by rfl) (.head) (.cons (.head) (.cons (.head) (.nil)))) ?_
    intro R1 i A4 c4 hk1 hR1
    obtain ⟨hj1, hj2⟩ := hk1
    refine cw_seq ?_
    refine cw_seq ?_
    refine cw_region ?_
    refine wl_v (ov_move rfl) rfl rfl rfl ?_
    refine wl_v (ov_move rfl) rfl rfl rfl ?_
    refine wl_v (ov_len (sliceI_spec sI33) rfl) rfl rfl rfl ?_
    refine wl_if (ov_lss rfl rfl) rfl rfl rfl (fun c20 => ?_) (fun c20 => ?_)
    ·
      refine wl_nil ?_
      refine ce_then ?_
      refine cw_true rfl ?_
      refine cw_skip ?_
      refine ce_then ?_
      refine cw_seq ?_
      refine cw_block ?_
      refine cw_region ?_
      refine wl_v (ov_move rfl) rfl rfl rfl ?_
      refine wl_v (ov_move rfl) rfl rfl rfl ?_
      refine wl_v (ov_move rfl) rfl rfl rfl ?_
      refine wl_v (ov_index (k := i) (c := c) sI33 tI23 rfl rfl (some_holds (q := i * 1) (holds_old oA) (by rw [cells_length fL_len]; have hlt : i < hs.length := (by first | omega | (simp; omega)); omega)) (show i < xss.length from (by first | omega | (simp; omega)))) rfl rfl rfl ?_
      refine wl_v (ov_load tI23 (holds_old oA) rfl (get_fLn fA (show i < xss.length from (by first | omega | (simp; omega))))) rfl rfl rfl ?_
      have hri := hr _ (getD_mem (xs := xss) (k := i) [] (by omega))
      refine wl_v (ov_move rfl) rfl rfl rfl ?_
      refine wl_v (ov_index (k := k) (c := (hs.getD i (none, 0, 0)).2.2) sI23 tI3 rfl rfl (some_holds (q := k * 1) (mx_at (mx_old omA) (show i < xss.length from (by first | omega | (simp; omega)))) (by rw [cells_length fI_len]; have hlt : k < (xss.getD i []).length := (by first | omega | (simp; omega)); omega)) (show k < (xss.getD i []).length from (by first | omega | (simp; omega)))) rfl rfl rfl ?_
      refine wl_v (ov_load tI3 (mx_at (mx_old omA) (show i < xss.length from (by first | omega | (simp; omega)))) rfl (get_fI (show k < (xss.getD i []).length from (by first | omega | (simp; omega))))) rfl rfl rfl ?_
      refine wl_r (or_buildSlice (e := 3) (size := 1) (is := [0]) (vs := [.int .i64 (((xss.getD i []).getD k 0))]) (cs := cells fI ([((xss.getD i []).getD k 0)])) rfl rfl rfl (by decide) (fun _ => by kernel_rfl)) rfl rfl (kt1 rfl (fun g31 => ?_))
      refine wl_r (or_append (c2 := 1) sI23 tI3 rfl (by decide) rfl rfl (.tail .head) (holds_row (List.Mem.head _)) (by rw [cells_length fI_len]; try simp) (one_cells fI_one _) cells_append (by omega) (by omega)) rfl rfl (kt2p rfl (fun A32 c32 h32 => ?_))
      refine wl_v (ov_assign rfl) rfl rfl rfl ?_
      refine wl_nil ?_
      refine ce_block ?_
      refine ce_then ?_
      refine cw_region ?_
      refine wl_v (ov_move rfl) rfl rfl rfl ?_
      refine wl_v (ov_add (r := ((i + 1 : Nat) : Int)) rfl rfl rfl (by omega)) rfl rfl rfl ?_
      refine wl_v (ov_assign rfl) rfl rfl rfl ?_
      refine wl_nil ?_
      exact fun ac_ w_ hs_ => hR1 (i + 1) A32 c32 ⟨by omega, h32⟩ (by omega) ac_ w_ (hs_.weaken (.cons rfl (.cons rfl (.cons rfl (.cons rfl (.cons rfl (.cons rfl (.nil))))))) (.consE (show row 3 1 A32 (i + 1) (c32) (cells fI ((colTo xss k i) ++ ([((xss.getD i []).getD k 0)]))) = row 3 1 A32 ((i + 1)) (c32) (cells fI (colTo xss k (i + 1))) by rw [colTo_succ (by omega)] <;> rfl) (.head) (.cons (.tail .head) (.cons (.tail .head) (.nil)))))
    ·
      refine wl_nil ?_
      refine ce_then ?_
      refine cw_false rfl ?_
      refine cw_exit ?_
      refine ce_then_exit ?_
      refine ce_then_exit ?_
      refine ce_hit ?_
      refine ce_then ?_
      refine cw_region ?_
      refine wl_v (ov_move rfl) rfl rfl rfl ?_
      refine wl_v (ov_move rfl) rfl rfl rfl ?_
      refine wl_r (or_buildSlice (e := 23) (size := 1) (is := [0]) (vs := [.slice A4 (i) (c4)]) (cs := cells fL ([(A4, i, c4)])) rfl rfl rfl (by decide) (fun _ => by kernel_rfl)) rfl rfl (kt1 rfl (fun g35 => ?_))
      refine wl_r (or_append (c2 := 1) sI33 tI23 rfl (by decide) rfl rfl (.tail (.tail (.tail .head))) (holds_row (List.Mem.head _)) (by rw [cells_length fL_len]; try simp) (one_cells fL_one _) cells_append (by omega) (by omega)) rfl rfl (kt2p rfl (fun A36 c36 h36 => ?_))
      refine ct_push (k := c4) (.cons (.tail (.tail (.tail .head))) (.cons (.tail (.tail .head)) (.cons (.head) (.cons (.head) (.nil))))) (colTo_len (by omega)) (hj2) ?_
      refine wl_v (ov_assign rfl) rfl rfl rfl ?_
      refine wl_nil ?_
      refine ce_block ?_
      refine ce_then ?_
      refine cw_region ?_
      refine wl_v (ov_move rfl) rfl rfl rfl ?_
      refine wl_v (ov_add (r := ((k + 1 : Nat) : Int)) rfl rfl rfl (by omega)) rfl rfl rfl ?_
      refine wl_v (ov_assign rfl) rfl rfl rfl ?_
      refine wl_nil ?_
      exact fun ac_ w_ hs_ => hR0 (k + 1) A36 c36 (hs3 ++ ([(A4, i, c4)])) ⟨by omega, h36⟩ (by omega) ac_ w_ (hs_.weaken (.cons rfl (.cons rfl (.cons rfl (.cons rfl (.nil))))) (.consE (show nest 3 1 fI (hs3 ++ [(A4, i, c4)]) (trTo xss k ++ [colTo xss k i]) = nest 3 1 fI (hs3 ++ ([(A4, i, c4)])) (trTo xss (k + 1)) by rw [trTo_succ, ← colTo_end (k := k) (i := i) (by omega), show i = xss.length from by omega]) (.head) (.cons (.head) (.nil))))
  ·
    refine wl_nil ?_
    refine ce_then ?_
    refine cw_false rfl ?_
    refine cw_exit ?_
    refine ce_then_exit ?_
    refine ce_then_exit ?_
    refine ce_hit ?_
    refine ce_then ?_
    refine cw_seq ?_
    refine cw_region ?_
    refine wl_v (ov_move rfl) rfl rfl rfl ?_
    refine wl_v (ov_assign rfl) rfl rfl rfl ?_
    refine wl_nil ?_
    refine ce_then ?_
    refine cw_ret ?_
    refine ce_results (v := .slice A3 (k) (c3)) (res1 rfl (rv_t rfl)) (fun w' hw => ?_)
    exact ⟨A3, c3, hs3, ⟨by rw [tr_len]; omega, trivial⟩, (by rw [tr_len, show colsN xss = k from by omega]), ((.consE (show row 23 1 A3 (k) (c3) (cells fL hs3) = row 23 1 A3 ((trM xss).length) (c3) (cells fL hs3) by rw [tr_len, show colsN xss = k from by omega]) (.tail .head) (.consE (show nest 3 1 fI hs3 (trTo xss k) = nest 3 1 fI hs3 (trM xss) by rw [trM, trTo, show colsN xss = k from by omega]) (.head) (.nil)) : Keep _ _).ss hw).to_new⟩
set_option maxRecDepth 100000 in
theorem margins_c (w w0 : World) (Bd : Nat) (F : List Ent) (mo : Int) (g : Nat) (Ar : Option Addr) (nr : Nat) (cr : Nat) (bs : List Nat) (p : Nat) (hAr : Holds (SS w0 Bd F) Ar (cells fY bs)) (eAr : bs.length = nr) (lAr : nr ≤ cr) (hy : nr ≤ 2000 ∧ (∀ x ∈ bs, x < 256) ∧ p ≤ 98000) (hmo : 1 ≤ mo ∧ mo ≤ 5) (hss : SS w0 Bd ((blk g [.slice Ar (nr) (cr), .int .i64 (((p : Nat) : Int))] 59) :: F) w) : Calls Try.prog 38 #[elp (some ⟨g, 0, none⟩) (0), .int .i64 (mo)] w (Ret fun rv w' => ∃ A1 c1 xs A2 c2 ys q, ((xs.length ≤ c1 ∧ ys.length ≤ c2 ∧ (1 ≤ xs.length ∧ xs.length ≤ 5) ∧ (1 ≤ ys.length ∧ ys.length ≤ 10) ∧ Sm xs ∧ Sm ys) ∧ p ≤ q ∧ q ≤ p + 60) ∧ rv = .tuple #[.slice A1 (xs.length) (c1), .slice A2 (ys.length) (c2)] ∧ SS w0 Bd ((row 3 1 A1 (xs.length) (c1) (cells fI xs)) :: (row 3 1 A2 (ys.length) (c2) (cells fI ys)) :: (blk g [.slice Ar (nr) (cr), .int .i64 (((q : Nat) : Int))] 59) :: F) w') := by
  refine fn_enter (args := [elp (some ⟨g, 0, none⟩) (0), .int .i64 (mo)]) Try.func38 rfl Try.ntmps38 rfl hss ?_
  refine cw_seq ?_
  refine cw_region ?_
  refine wl_v (ov_assign rfl) rfl rfl rfl ?_
  refine wl_v (ov_assign rfl) rfl rfl rfl ?_
  refine wl_nil ?_
  refine ce_then ?_
  refine cw_seq ?_
  refine cw_region ?_
  refine wl_v (ov_move rfl) rfl rfl rfl ?_
  refine wl_v (ov_move rfl) rfl rfl rfl ?_
  refine wl_v (ov_move rfl) rfl rfl rfl ?_
  refine wl_r (or_call (fv := []) (vs := [elp (some ⟨g, 0, none⟩) (0), .int .i64 (mo)]) (cs := []) en73 rfl rfl (call_o (.cons (.head) (.refl)) (fun w hw => pick_c w _ _ _ mo g Ar nr cr bs p (Holds.keepF hAr (.refl)) (by first | rfl | assumption | (simp; done) | (simp; omega)) lAr ⟨hy.1, hy.2.1, by omega⟩ (by first | assumption | omega | (simp; omega)) hw))) rfl rfl (kt1p rfl (fun v_13 h_13 => ?_))
  have bv_13 : 0 ≤ v_13 ∧ v_13 ≤ 4 := by omega
  obtain ⟨a0, rfl⟩ := Int.eq_ofNat_of_zero_le (show 0 ≤ v_13 from bv_13.1)
  refine wl_v (ov_add (r := ((1 + a0 : Nat) : Int)) rfl rfl rfl (by omega)) rfl rfl rfl ?_
  refine wl_v (ov_move rfl) rfl rfl rfl ?_
  refine wl_v (ov_move rfl) rfl rfl rfl ?_
  refine wl_r (or_call (fv := []) (vs := [elp (some ⟨g, 0, none⟩) (0), .int .i64 (mo)]) (cs := []) en73 rfl rfl (call_o (.cons (.head) (.refl)) (fun w hw => pick_c w _ _ _ mo g Ar nr cr bs (p + 1) (Holds.keepF hAr (.refl)) (by first | rfl | assumption | (simp; done) | (simp; omega)) lAr ⟨hy.1, hy.2.1, by omega⟩ (by first | assumption | omega | (simp; omega)) hw))) rfl rfl (kt1p rfl (fun v_17 h_17 => ?_))
  have bv_17 : 0 ≤ v_17 ∧ v_17 ≤ 4 := by omega
  obtain ⟨b0, rfl⟩ := Int.eq_ofNat_of_zero_le (show 0 ≤ v_17 from bv_17.1)
  refine wl_v (ov_add (r := ((1 + b0 : Nat) : Int)) rfl rfl rfl (by omega)) rfl rfl rfl ?_
  refine wl_r (or_call (fv := []) (vs := [elp (some ⟨g, 0, none⟩) (0), .int .i64 (((1 + a0 : Nat) : Int)), .int .i64 (((1 + b0 : Nat) : Int))]) (cs := []) en72 rfl rfl (call_o (.cons (.head) (.refl)) (fun w hw => aMatrix_c w _ _ _ (1 + a0) (1 + b0) g Ar nr cr bs ((p + 1) + 1) (Holds.keepF hAr (.refl)) (by first | rfl | assumption | (simp; done) | (simp; omega)) lAr ⟨hy.1, hy.2.1, by omega⟩ (by first | assumption | omega | (simp; omega)) hw))) rfl rfl (kt5p rfl (fun A2_19 c2_19 hs2_19 m_19 q_19 h_19 => ?_))
  have hm19 := h_19.1.2.2
  have hc19 := hm19.cols (by omega)
  have ht19 := hm19.tr
  have htl19 := tr_len m_19
  have hrl19 := rsum_len m_19
  have hrt19 := rsum_len (trM m_19)
  have hs1 := hm19.sm (by omega)
  have hs2 := ht19.sm (by omega)
  refine wl_v (ov_assign rfl) rfl rfl rfl ?_
  refine wl_nil ?_
  refine ce_then ?_
  refine cw_seq ?_
  refine cw_region ?_
  refine wl_v (ov_move rfl) rfl rfl rfl ?_
  refine ct_fact (nest_facts (List.Mem.tail _ (List.Mem.head _))) (fun hnfns_19_1 => ?_)
  have hnfns_19_1l := hnfns_19_1.1
  refine wl_r (or_call (fv := []) (vs := [.slice A2_19 (m_19.length) (c2_19)]) (cs := []) en67 rfl rfl (call_x2 (fun w hw => rowSums_c w A2_19 m_19.length c2_19 hs2_19 m_19 ((holds_row (List.Mem.head _)) w hw) rfl h_19.1.1 hnfns_19_1 ((mx_nest (List.Mem.tail _ (List.Mem.head _))) w hw) ⟨by omega, hm19.small (by omega)⟩))) rfl rfl (kt2p rfl (fun A2_21 c2_21 h_21 => ?_))
  refine wl_v (ov_assign rfl) rfl rfl rfl ?_
  refine wl_nil ?_
  refine ce_then ?_
  refine cw_seq ?_
  refine cw_region ?_
  refine wl_v (ov_move rfl) rfl rfl rfl ?_
  refine ct_fact (nest_facts (List.Mem.tail _ (List.Mem.tail _ (List.Mem.head _)))) (fun hnfns_19_2 => ?_)
  have hnfns_19_2l := hnfns_19_2.1
  refine wl_r (or_call (fv := []) (vs := [.slice A2_19 (m_19.length) (c2_19)]) (cs := []) en68 rfl rfl (call_x3 (fun w hw => transposeS_c w A2_19 m_19.length c2_19 hs2_19 m_19 ((holds_row (List.Mem.tail _ (List.Mem.head _))) w hw) rfl h_19.1.1 hnfns_19_2 ((mx_nest (List.Mem.tail _ (List.Mem.tail _ (List.Mem.head _)))) w hw) (fun r hr => by rw [hc19]; exact (hm19 r hr).1) (by omega)))) rfl rfl (kt3p rfl (fun A2_23 c2_23 hs2_23 h_23 => ?_))
  refine ct_fact (nest_facts (List.Mem.tail _ (List.Mem.head _))) (fun hnfns_23_3 => ?_)
  have hnfns_23_3l := hnfns_23_3.1
  refine wl_r (or_call (fv := []) (vs := [.slice A2_23 ((trM m_19).length) (c2_23)]) (cs := []) en67 rfl rfl (call_x2 (fun w hw => rowSums_c w A2_23 ((trM m_19).length) c2_23 hs2_23 (trM m_19) ((holds_row (List.Mem.head _)) w hw) rfl h_23.1 hnfns_23_3 ((mx_nest (List.Mem.tail _ (List.Mem.head _))) w hw) ⟨by omega, ht19.small (by omega)⟩))) rfl rfl (kt2p rfl (fun A2_24 c2_24 h_24 => ?_))
  refine wl_v (ov_assign rfl) rfl rfl rfl ?_
  refine wl_nil ?_
  refine ce_then ?_
  refine cw_cut3 (fun (xs : List Int) (ys : List Int) (q : Nat) => [(0, elp (some ⟨g, 0, none⟩) (0)), (4, .slice none (0) (0)), (5, .slice none (0) (0)), (7, .slice A2_21 (1 + a0) (c2_21)), (8, .slice A2_24 (1 + b0) (c2_24))]) (fun (xs : List Int) (ys : List Int) (q : Nat) => (row 3 1 A2_24 (1 + b0) (c2_24) (cells fI ys)) :: (row 23 1 A2_23 ((trM m_19).length) (c2_23) (cells fL hs2_23)) :: (nest 3 1 fI hs2_23 (trM m_19)) :: (row 3 1 A2_21 (1 + a0) (c2_21) (cells fI xs)) :: (row 23 1 A2_19 (m_19.length) (c2_19) (cells fL hs2_19)) :: (nest 3 1 fI hs2_19 m_19) :: (blk g [.slice Ar (nr) (cr), .int .i64 (((q : Nat) : Int))] 59) :: F) (fun (xs : List Int) (ys : List Int) (q : Nat) => xs.length = 1 + a0 ∧ ys.length = 1 + b0 ∧ Sm xs ∧ Sm ys ∧ p ≤ q ∧ q ≤ p + 50) (fun K9 hK9 => ?_) ?_
  ·
    refine cw_seq ?_
    refine cw_region ?_
    refine wl_v (ov_move rfl) rfl rfl rfl ?_
    refine wl_r (or_call (fv := []) (vs := [elp (some ⟨g, 0, none⟩) (0), .int .i64 (3)]) (cs := []) en73 rfl rfl (call_o (.cons (.tail (.tail (.tail (.tail (.tail (.tail .head)))))) (.cons (.head) (.cons (.head) (.cons (.head) (.cons (.head) (.cons (.head) (.cons (.head) (.refl)))))))) (fun w hw => pick_c w _ _ _ 3 g Ar nr cr bs q_19 (Holds.keepF hAr ((.drop (.drop (.drop (.drop (.drop (.drop .refl)))))))) (by first | rfl | assumption | (simp; done) | (simp; omega)) lAr ⟨hy.1, hy.2.1, by omega⟩ (by first | assumption | omega | (simp; omega)) hw))) rfl rfl (kt1p rfl (fun v_26 h_26 => ?_))
    refine wl_if (ov_eql rfl rfl) rfl rfl rfl (fun c27 => ?_) (fun c27 => ?_)
    ·
      refine wl_nil ?_
      refine ce_then ?_
      refine cw_true rfl ?_
      refine cw_seq ?_
      refine cw_region ?_
      refine wl_v (ov_move rfl) rfl rfl rfl ?_
      refine wl_v (ov_move rfl) rfl rfl rfl ?_
      refine wl_v (ov_len (sliceI_spec sI23) rfl) rfl rfl rfl ?_
      refine wl_r (or_call (fv := []) (vs := [elp (some ⟨g, 0, none⟩) (0), .int .i64 ((((rsum m_19).length : Nat) : Int))]) (cs := []) en73 rfl rfl (call_o (.cons (.head) (.cons (.head) (.cons (.head) (.cons (.head) (.cons (.head) (.cons (.head) (.cons (.head) (.refl)))))))) (fun w hw => pick_c w _ _ _ (((rsum m_19).length : Nat) : Int) g Ar nr cr bs (q_19 + 1) (Holds.keepF hAr ((.drop (.drop (.drop (.drop (.drop (.drop .refl)))))))) (by first | rfl | assumption | (simp; done) | (simp; omega)) lAr ⟨hy.1, hy.2.1, by omega⟩ (by first | assumption | omega | (simp; omega)) hw))) rfl rfl (kt1p rfl (fun v_31 h_31 => ?_))
      refine wl_v (ov_assign rfl) rfl rfl rfl ?_
      refine wl_nil ?_
      refine ce_then ?_
      refine cw_seq ?_
      refine cw_draw mixO [15] (.cons (.tail .head) (.cons (.tail .head) (.cons (.tail .head) (.cons (.tail .head) (.cons (.tail .head) (.cons (.tail .head) ((.drop .refl)))))))) rfl ?_
      refine wg_takep (i := 0) rfl (ov_move rfl) rfl rfl rfl (by kernel_rfl) (by kernel_rfl) (by kernel_rfl) rfl ?_
      refine wg_takep (i := 1) rfl (ov_move rfl) rfl rfl rfl (by kernel_rfl) (by kernel_rfl) (by kernel_rfl) rfl ?_
      refine wg_takep (i := 2) rfl (ov_move rfl) rfl rfl rfl (by kernel_rfl) (by kernel_rfl) (by kernel_rfl) rfl ?_
      refine wg_takep (i := 3) rfl (ov_move rfl) rfl rfl rfl (by kernel_rfl) (by kernel_rfl) (by kernel_rfl) rfl ?_
      refine wg_take (i := 4) rfl (ov_indexg sI23 tI3 rfl rfl (some_holds (q := v_31.toNat * 1) (holds_row (List.Mem.tail _ (List.Mem.tail _ (List.Mem.tail _ (List.Mem.head _))))) (by rw [cells_length fI_len]; have hlt : v_31.toNat < (rsum m_19).length := (by first | omega | (rw [List.length_set]; omega)); omega)) (by first | omega | (rw [List.length_set]; omega)) (show v_31.toNat < (rsum m_19).length from (by first | omega | (rw [List.length_set]; omega)))) rfl rfl rfl (by kernel_rfl) (by kernel_rfl) (by kernel_rfl) (by kernel_rfl) ?_
      refine wg_take (i := 5) rfl (ov_load tI3 (holds_row (List.Mem.tail _ (List.Mem.tail _ (List.Mem.tail _ (List.Mem.head _))))) rfl (get_fI (show v_31.toNat < (rsum m_19).length from (by first | omega | (rw [List.length_set]; omega))))) rfl rfl rfl (by kernel_rfl) (by kernel_rfl) (by kernel_rfl) (by kernel_rfl) ?_
      have hv37 := hs1.at_ (k := v_31.toNat) (by omega)
      refine wg_takep (i := 6) rfl (ov_move rfl) rfl rfl rfl (by kernel_rfl) (by kernel_rfl) (by kernel_rfl) rfl ?_
      refine wg_takep (i := 11) rfl (ov_move rfl) rfl rfl rfl (by kernel_rfl) (by kernel_rfl) (by kernel_rfl) rfl ?_
      refine wg_takep (i := 12) rfl (ov_len (sliceI_spec sI23) rfl) rfl rfl rfl (by kernel_rfl) (by kernel_rfl) (by kernel_rfl) rfl ?_
      refine wg_one (i := 7) (by kernel_rfl) ?_
      refine go_r rfl rfl rfl rfl (or_buildSlice (e := 3) (size := 1) (is := [0, 1, 2]) (vs := [.int .i64 (1), .int .i64 (-1), .int .i64 (2)]) (cs := cells fI ([1, -1, 2])) rfl rfl rfl (by decide) (fun _ => by kernel_rfl)) (kt1 rfl (fun g39 => ?_))
      refine gk (.cons (.tail (.tail .head)) (.cons (.tail (.tail .head)) (.cons (.tail (.tail .head)) (.cons (.tail (.tail .head)) (.cons (.tail (.tail .head)) (.cons (.tail (.tail .head)) ((.drop (.drop .refl))))))))) ?_
      refine wg_one (i := 8) (by kernel_rfl) ?_
      refine go_r rfl rfl rfl rfl (or_call (fv := []) (vs := [elp (some ⟨g, 0, none⟩) (0), .slice (some ⟨g39, 0, none⟩) (3) (3)]) (cs := []) en74 rfl rfl (call_o (.cons (.tail .head) (.cons (.head) (.cons (.head) (.cons (.head) (.cons (.head) (.cons (.head) (.cons (.head) (.cons (.head) (.refl))))))))) (fun w hw => one_c w _ _ _ (some ⟨g39, 0, none⟩) 3 3 ([1, -1, 2]) g Ar nr cr bs ((q_19 + 1) + 1) (holds_row (List.Mem.head _)) (by first | rfl | assumption | (simp; done) | (simp; omega)) (Nat.le_refl _) (Holds.keepF hAr ((.drop (.drop (.drop (.drop (.drop (.drop (.drop .refl))))))))) (by first | rfl | assumption | (simp; done) | (simp; omega)) lAr ⟨hy.1, hy.2.1, by omega⟩ (by first | assumption | omega | (simp; omega)) hw))) (kt1p rfl (fun v_40 h_40 => ?_))
      refine gk (.cons (.tail (.tail .head)) (.cons (.tail (.tail .head)) (.cons (.tail (.tail .head)) (.cons (.tail (.tail .head)) (.cons (.tail (.tail .head)) (.cons (.tail (.tail .head)) ((.drop (.drop .refl))))))))) ?_
      have h40 : -1 ≤ v_40 ∧ v_40 ≤ 2 := (by simp at h_40; omega)
      refine wg_takep (i := 9) rfl (ov_add (r := ((rsum m_19).getD v_31.toNat 0) + v_40) rfl rfl rfl (by omega)) rfl rfl rfl (by kernel_rfl) (by kernel_rfl) (by kernel_rfl) rfl ?_
      refine wg_takep (i := 10) rfl (ov_max (r := max (((rsum m_19).getD v_31.toNat 0) + v_40) 0) rfl rfl (by first | omega | (split <;> omega))) rfl rfl rfl (by kernel_rfl) (by kernel_rfl) (by kernel_rfl) rfl ?_
      refine wg_takep (i := 13) rfl (ov_min (r := min (max (((rsum m_19).getD v_31.toNat 0) + v_40) 0) (((rsum (trM m_19)).length : Nat) : Int)) rfl rfl (by first | omega | (split <;> omega))) rfl rfl rfl (by kernel_rfl) (by kernel_rfl) (by kernel_rfl) rfl ?_
      refine wg_take (i := 14) rfl (ov_indexg sI23 tI3 rfl rfl (some_holds (q := v_31.toNat * 1) (holds_row (List.Mem.tail _ (List.Mem.tail _ (List.Mem.tail _ (List.Mem.head _))))) (by rw [cells_length fI_len]; have hlt : v_31.toNat < (rsum m_19).length := (by first | omega | (rw [List.length_set]; omega)); omega)) (by first | omega | (rw [List.length_set]; omega)) (show v_31.toNat < (rsum m_19).length from (by first | omega | (rw [List.length_set]; omega)))) rfl rfl rfl (by kernel_rfl) (by kernel_rfl) (by kernel_rfl) (by kernel_rfl) ?_
      refine wg_one (i := 15) (by kernel_rfl) ?_
      refine go_late0 rfl rfl rfl rfl (or_store_row (vs := [.int .i64 (min (max (((rsum m_19).getD v_31.toNat 0) + v_40) 0) (((rsum (trM m_19)).length : Nat) : Int))]) (cs' := cells fI ((rsum m_19).set v_31.toNat (min (max (((rsum m_19).getD v_31.toNat 0) + v_40) 0) (((rsum (trM m_19)).length : Nat) : Int)))) (.tail (.tail (.tail (.tail (.tail .head))))) tI3 rfl rfl rfl rfl (by rw [cells_length fI_len]; have hlt := (show v_31.toNat < (rsum m_19).length from (by first | omega | (rw [List.length_set]; omega))); simp only [List.length_cons, List.length_nil]; omega) (by simp) (cells_splice fI_len (show v_31.toNat < (rsum m_19).length from (by first | omega | (rw [List.length_set]; omega))) (min (max (((rsum m_19).getD v_31.toNat 0) + v_40) 0) (((rsum (trM m_19)).length : Nat) : Int)))) (kn0 ?_)
      refine wa_done (by kernel_rfl) ?_
      refine ce_then ?_
      refine cw_seq ?_
      refine cw_region ?_
      refine wl_v (ov_move rfl) rfl rfl rfl ?_
      refine wl_v (ov_move rfl) rfl rfl rfl ?_
      refine wl_v (ov_len (sliceI_spec sI23) rfl) rfl rfl rfl ?_
      refine wl_r (or_call (fv := []) (vs := [elp (some ⟨g, 0, none⟩) (0), .int .i64 ((((rsum (trM m_19)).length : Nat) : Int))]) (cs := []) en73 rfl rfl (call_o (.cons (.tail .head) (.cons (.head) (.cons (.head) (.cons (.head) (.cons (.head) (.cons (.head) (.cons (.head) (.cons (.head) (.refl))))))))) (fun w hw => pick_c w _ _ _ (((rsum (trM m_19)).length : Nat) : Int) g Ar nr cr bs (((q_19 + 1) + 1) + 1) (Holds.keepF hAr ((.drop (.drop (.drop (.drop (.drop (.drop (.drop .refl))))))))) (by first | rfl | assumption | (simp; done) | (simp; omega)) lAr ⟨hy.1, hy.2.1, by omega⟩ (by first | assumption | omega | (simp; omega)) hw))) rfl rfl (kt1p rfl (fun v_50 h_50 => ?_))
      refine wl_v (ov_assign rfl) rfl rfl rfl ?_
      refine wl_nil ?_
      refine ce_then ?_
      refine cw_draw mixO [15] (.cons (.tail .head) (.cons (.tail .head) (.cons (.tail .head) (.cons (.tail .head) (.cons (.tail .head) (.cons (.tail .head) (.cons (.tail .head) ((.drop .refl))))))))) rfl ?_
      refine wg_takep (i := 0) rfl (ov_move rfl) rfl rfl rfl (by kernel_rfl) (by kernel_rfl) (by kernel_rfl) rfl ?_
      refine wg_takep (i := 1) rfl (ov_move rfl) rfl rfl rfl (by kernel_rfl) (by kernel_rfl) (by kernel_rfl) rfl ?_
      refine wg_takep (i := 2) rfl (ov_move rfl) rfl rfl rfl (by kernel_rfl) (by kernel_rfl) (by kernel_rfl) rfl ?_
      refine wg_takep (i := 3) rfl (ov_move rfl) rfl rfl rfl (by kernel_rfl) (by kernel_rfl) (by kernel_rfl) rfl ?_
      refine wg_take (i := 4) rfl (ov_indexg sI23 tI3 rfl rfl (some_holds (q := v_50.toNat * 1) (holds_row (List.Mem.tail _ (List.Mem.tail _ (List.Mem.head _)))) (by rw [cells_length fI_len]; have hlt : v_50.toNat < (rsum (trM m_19)).length := (by first | omega | (rw [List.length_set]; omega)); omega)) (by first | omega | (rw [List.length_set]; omega)) (show v_50.toNat < (rsum (trM m_19)).length from (by first | omega | (rw [List.length_set]; omega)))) rfl rfl rfl (by kernel_rfl) (by kernel_rfl) (by kernel_rfl) (by kernel_rfl) ?_
      refine wg_take (i := 5) rfl (ov_load tI3 (holds_row (List.Mem.tail _ (List.Mem.tail _ (List.Mem.head _)))) rfl (get_fI (show v_50.toNat < (rsum (trM m_19)).length from (by first | omega | (rw [List.length_set]; omega))))) rfl rfl rfl (by kernel_rfl) (by kernel_rfl) (by kernel_rfl) (by kernel_rfl) ?_
      have hv56 := hs2.at_ (k := v_50.toNat) (by omega)
      refine wg_takep (i := 6) rfl (ov_move rfl) rfl rfl rfl (by kernel_rfl) (by kernel_rfl) (by kernel_rfl) rfl ?_
      refine wg_takep (i := 11) rfl (ov_move rfl) rfl rfl rfl (by kernel_rfl) (by kernel_rfl) (by kernel_rfl) rfl ?_
      refine wg_takep (i := 12) rfl (ov_len (sliceI_spec sI23) rfl) rfl rfl rfl (by kernel_rfl) (by kernel_rfl) (by kernel_rfl) rfl ?_
      refine wg_one (i := 7) (by kernel_rfl) ?_
      refine go_r rfl rfl rfl rfl (or_buildSlice (e := 3) (size := 1) (is := [0, 1, 2]) (vs := [.int .i64 (1), .int .i64 (-1), .int .i64 (2)]) (cs := cells fI ([1, -1, 2])) rfl rfl rfl (by decide) (fun _ => by kernel_rfl)) (kt1 rfl (fun g58 => ?_))
      refine gk (.cons (.tail (.tail .head)) (.cons (.tail (.tail .head)) (.cons (.tail (.tail .head)) (.cons (.tail (.tail .head)) (.cons (.tail (.tail .head)) (.cons (.tail (.tail .head)) (.cons (.tail (.tail .head)) ((.drop (.drop .refl)))))))))) ?_
      refine wg_one (i := 8) (by kernel_rfl) ?_
      refine go_r rfl rfl rfl rfl (or_call (fv := []) (vs := [elp (some ⟨g, 0, none⟩) (0), .slice (some ⟨g58, 0, none⟩) (3) (3)]) (cs := []) en74 rfl rfl (call_o (.cons (.tail .head) (.cons (.head) (.cons (.head) (.cons (.head) (.cons (.head) (.cons (.head) (.cons (.head) (.cons (.head) (.cons (.head) (.refl)))))))))) (fun w hw => one_c w _ _ _ (some ⟨g58, 0, none⟩) 3 3 ([1, -1, 2]) g Ar nr cr bs ((((q_19 + 1) + 1) + 1) + 1) (holds_row (List.Mem.head _)) (by first | rfl | assumption | (simp; done) | (simp; omega)) (Nat.le_refl _) (Holds.keepF hAr ((.drop (.drop (.drop (.drop (.drop (.drop (.drop (.drop .refl)))))))))) (by first | rfl | assumption | (simp; done) | (simp; omega)) lAr ⟨hy.1, hy.2.1, by omega⟩ (by first | assumption | omega | (simp; omega)) hw))) (kt1p rfl (fun v_59 h_59 => ?_))
      refine gk (.cons (.tail (.tail .head)) (.cons (.tail (.tail .head)) (.cons (.tail (.tail .head)) (.cons (.tail (.tail .head)) (.cons (.tail (.tail .head)) (.cons (.tail (.tail .head)) (.cons (.tail (.tail .head)) ((.drop (.drop .refl)))))))))) ?_
      have h59 : -1 ≤ v_59 ∧ v_59 ≤ 2 := (by simp at h_59; omega)
      refine wg_takep (i := 9) rfl (ov_add (r := ((rsum (trM m_19)).getD v_50.toNat 0) + v_59) rfl rfl rfl (by omega)) rfl rfl rfl (by kernel_rfl) (by kernel_rfl) (by kernel_rfl) rfl ?_
      refine wg_takep (i := 10) rfl (ov_max (r := max (((rsum (trM m_19)).getD v_50.toNat 0) + v_59) 0) rfl rfl (by first | omega | (split <;> omega))) rfl rfl rfl (by kernel_rfl) (by kernel_rfl) (by kernel_rfl) rfl ?_
      refine wg_takep (i := 13) rfl (ov_min (r := min (max (((rsum (trM m_19)).getD v_50.toNat 0) + v_59) 0) (((rsum m_19).length : Nat) : Int)) rfl rfl (by first | omega | (split <;> omega))) rfl rfl rfl (by kernel_rfl) (by kernel_rfl) (by kernel_rfl) rfl ?_
      refine wg_take (i := 14) rfl (ov_indexg sI23 tI3 rfl rfl (some_holds (q := v_50.toNat * 1) (holds_row (List.Mem.tail _ (List.Mem.tail _ (List.Mem.head _)))) (by rw [cells_length fI_len]; have hlt : v_50.toNat < (rsum (trM m_19)).length := (by first | omega | (rw [List.length_set]; omega)); omega)) (by first | omega | (rw [List.length_set]; omega)) (show v_50.toNat < (rsum (trM m_19)).length from (by first | omega | (rw [List.length_set]; omega)))) rfl rfl rfl (by kernel_rfl) (by kernel_rfl) (by kernel_rfl) (by kernel_rfl) ?_
      refine wg_one (i := 15) (by kernel_rfl) ?_
      refine go_late0 rfl rfl rfl rfl (or_store_row (vs := [.int .i64 (min (max (((rsum (trM m_19)).getD v_50.toNat 0) + v_59) 0) (((rsum m_19).length : Nat) : Int))]) (cs' := cells fI ((rsum (trM m_19)).set v_50.toNat (min (max (((rsum (trM m_19)).getD v_50.toNat 0) + v_59) 0) (((rsum m_19).length : Nat) : Int)))) (.tail (.tail (.tail (.tail .head)))) tI3 rfl rfl rfl rfl (by rw [cells_length fI_len]; have hlt := (show v_50.toNat < (rsum (trM m_19)).length from (by first | omega | (rw [List.length_set]; omega))); simp only [List.length_cons, List.length_nil]; omega) (by simp) (cells_splice fI_len (show v_50.toNat < (rsum (trM m_19)).length from (by first | omega | (rw [List.length_set]; omega))) (min (max (((rsum (trM m_19)).getD v_50.toNat 0) + v_59) 0) (((rsum m_19).length : Nat) : Int)))) (kn0 ?_)
      refine wa_done (by kernel_rfl) ?_
      exact fun ac_ w_ hs_ => hK9 ((rsum m_19).set v_31.toNat (min (max (((rsum m_19).getD v_31.toNat 0) + v_40) 0) (((rsum (trM m_19)).length : Nat) : Int))) ((rsum (trM m_19)).set v_50.toNat (min (max (((rsum (trM m_19)).getD v_50.toNat 0) + v_59) 0) (((rsum m_19).length : Nat) : Int))) (q_19 + 1 + 1 + 1 + 1 + 1) ⟨by rw [List.length_set]; omega, by rw [List.length_set]; omega, hs1.set (by omega), hs2.set (by omega), by omega, by omega⟩ ac_ w_ (hs_.weaken (.cons rfl (.cons rfl (.cons rfl (.cons (congrArg (fun z => some (Value.slice A2_21 z c2_21)) (show ((rsum m_19).length) = (1 + a0) from (by omega))) (.cons (congrArg (fun z => some (Value.slice A2_24 z c2_24)) (show ((rsum (trM m_19)).length) = (1 + b0) from (by omega))) (.nil)))))) (.consE (show row 3 1 A2_24 ((rsum (trM m_19)).length) (c2_24) (cells fI ((rsum (trM m_19)).set v_50.toNat (min (max (((rsum (trM m_19)).getD v_50.toNat 0) + v_59) 0) (((rsum m_19).length : Nat) : Int)))) = row 3 1 A2_24 (1 + b0) (c2_24) (cells fI ((rsum (trM m_19)).set v_50.toNat (min (max (((rsum (trM m_19)).getD v_50.toNat 0) + v_59) 0) (((rsum m_19).length : Nat) : Int)))) by rw [show (rsum (trM m_19)).length = 1 + b0 from by omega]) (.head) (.cons (.tail (.tail (.tail (.tail .head)))) (.cons (.tail (.tail (.tail (.tail .head)))) (.consE (show row 3 1 A2_21 ((rsum m_19).length) (c2_21) (cells fI ((rsum m_19).set v_31.toNat (min (max (((rsum m_19).getD v_31.toNat 0) + v_40) 0) (((rsum (trM m_19)).length : Nat) : Int)))) = row 3 1 A2_21 (1 + a0) (c2_21) (cells fI ((rsum m_19).set v_31.toNat (min (max (((rsum m_19).getD v_31.toNat 0) + v_40) 0) (((rsum (trM m_19)).length : Nat) : Int)))) by rw [show (rsum m_19).length = 1 + a0 from by omega]) (.tail (.tail .head)) (.cons (.tail (.tail (.tail .head))) (.cons (.tail (.tail (.tail .head))) (.cons (.head) ((.drop (.drop .refl)))))))))))
    ·
      refine wl_nil ?_
      refine ce_then ?_
      refine cw_false rfl ?_
      refine cw_skip ?_
      exact fun ac_ w_ hs_ => hK9 (rsum m_19) (rsum (trM m_19)) (q_19 + 1) ⟨by omega, by omega, hs1, hs2, by omega, by omega⟩ ac_ w_ (hs_.weaken (.cons rfl (.cons rfl (.cons rfl (.cons (congrArg (fun z => some (Value.slice A2_21 z c2_21)) (show ((rsum m_19).length) = (1 + a0) from (by omega))) (.cons (congrArg (fun z => some (Value.slice A2_24 z c2_24)) (show ((rsum (trM m_19)).length) = (1 + b0) from (by omega))) (.nil)))))) (.consE (show row 3 1 A2_24 ((rsum (trM m_19)).length) (c2_24) (cells fI (rsum (trM m_19))) = row 3 1 A2_24 (1 + b0) (c2_24) (cells fI (rsum (trM m_19))) by rw [show (rsum (trM m_19)).length = 1 + b0 from by omega]) (.tail .head) (.cons (.tail .head) (.cons (.tail .head) (.consE (show row 3 1 A2_21 ((rsum m_19).length) (c2_21) (cells fI (rsum m_19)) = row 3 1 A2_21 (1 + a0) (c2_21) (cells fI (rsum m_19)) by rw [show (rsum m_19).length = 1 + a0 from by omega]) (.tail .head) (.cons (.tail .head) (.cons (.tail .head) (.cons (.head) (.refl)))))))))
  ·
    intro xs ys q hz9
    obtain ⟨hx1, hy1, hxs, hys, hq1, hq2⟩ := hz9
    have hcx : 1 + a0 ≤ c2_21 := by omega
    have hcy : 1 + b0 ≤ c2_24 := by omega
    refine cw_seq ?_
    refine cw_seq ?_
    refine cw_region ?_
    refine wl_v (ov_move rfl) rfl rfl rfl ?_
    refine wl_r (or_call (fv := []) (vs := [elp (some ⟨g, 0, none⟩) (0), .int .i64 (30)]) (cs := []) en73 rfl rfl (call_o (.cons (.tail (.tail (.tail (.tail (.tail (.tail .head)))))) (.cons (.head) (.cons (.head) (.cons (.head) (.cons (.head) (.cons (.head) (.cons (.head) (.refl)))))))) (fun w hw => pick_c w _ _ _ 30 g Ar nr cr bs q (Holds.keepF hAr ((.drop (.drop (.drop (.drop (.drop (.drop .refl)))))))) (by first | rfl | assumption | (simp; done) | (simp; omega)) lAr ⟨hy.1, hy.2.1, by omega⟩ (by first | assumption | omega | (simp; omega)) hw))) rfl rfl (kt1p rfl (fun v_67 h_67 => ?_))
    refine wl_nil ?_
    refine ce_then ?_
    refine cw_block ?_
    refine cw_seq ?_
    refine cw_region ?_
    refine wl_if (ov_eql rfl rfl) rfl rfl rfl (fun c69 => ?_) (fun c69 => ?_)
    ·
      refine wl_v (ov_assign rfl) rfl rfl rfl ?_
      refine wl_nil ?_
      refine ce_then ?_
      refine cw_true rfl ?_
      refine cw_region ?_
      refine wl_v (ov_move rfl) rfl rfl rfl ?_
      refine wl_v (ov_move rfl) rfl rfl rfl ?_
      refine wl_r (or_buildSlice (e := 3) (size := 1) (is := [0, 1]) (vs := [.int .i64 (-1), .int .i64 (6)]) (cs := cells fI ([-1, 6])) rfl rfl rfl (by decide) (fun _ => by kernel_rfl)) rfl rfl (kt1 rfl (fun g72 => ?_))
      refine wl_r (or_call (fv := []) (vs := [elp (some ⟨g, 0, none⟩) (0), .slice (some ⟨g72, 0, none⟩) (2) (2)]) (cs := []) en74 rfl rfl (call_o (.cons (.tail .head) (.cons (.head) (.cons (.head) (.cons (.head) (.cons (.head) (.cons (.head) (.cons (.head) (.cons (.head) (.refl))))))))) (fun w hw => one_c w _ _ _ (some ⟨g72, 0, none⟩) 2 2 ([-1, 6]) g Ar nr cr bs (q + 1) (holds_row (List.Mem.head _)) (by first | rfl | assumption | (simp; done) | (simp; omega)) (Nat.le_refl _) (Holds.keepF hAr ((.drop (.drop (.drop (.drop (.drop (.drop (.drop .refl))))))))) (by first | rfl | assumption | (simp; done) | (simp; omega)) lAr ⟨hy.1, hy.2.1, by omega⟩ (by first | assumption | omega | (simp; omega)) hw))) rfl rfl (kt1p rfl (fun v_73 h_73 => ?_))
      have h73 : -1 ≤ v_73 ∧ v_73 ≤ 6 := (by simp at h_73; omega)
      refine wl_v (ov_index (k := 0) (c := c2_21) sI23 tI3 rfl rfl (some_holds (q := 0 * 1) (holds_row (List.Mem.tail _ (List.Mem.tail _ (List.Mem.tail _ (List.Mem.tail _ (List.Mem.tail _ (List.Mem.head _))))))) (by rw [cells_length fI_len]; have hlt : 0 < xs.length := (by first | omega | (rw [List.length_set]; omega)); omega)) (show 0 < 1 + a0 from (by first | omega | (rw [List.length_set]; omega)))) rfl rfl rfl ?_
      refine wl_r0 (or_store_row (vs := [.int .i64 (v_73)]) (cs' := cells fI (xs.set 0 v_73)) (.tail (.tail (.tail (.tail (.tail .head))))) tI3 rfl rfl rfl rfl (by rw [cells_length fI_len]; have hlt := (show 0 < xs.length from (by first | omega | (rw [List.length_set]; omega))); simp only [List.length_cons, List.length_nil]; omega) (by simp) (cells_splice fI_len (show 0 < xs.length from (by first | omega | (rw [List.length_set]; omega))) v_73)) rfl rfl (kn0 ?_)
      refine wl_nil ?_
      refine ce_block ?_
      refine ce_then ?_
      refine cw_seq ?_
      refine cw_region ?_
      refine wl_v (ov_move rfl) rfl rfl rfl ?_
      refine wl_v (ov_move rfl) rfl rfl rfl ?_
      refine wl_v (ov_assign rfl) rfl rfl rfl ?_
      refine wl_v (ov_assign rfl) rfl rfl rfl ?_
      refine wl_nil ?_
      refine ce_then ?_
      refine cw_ret ?_
      refine ce_results (v := .tuple #[.slice A2_21 (1 + a0) (c2_21), .slice A2_24 (1 + b0) (c2_24)]) (res2 rfl (rv_t rfl) (rv_t rfl)) (fun w' hw => ?_)
      exact ⟨A2_21, c2_21, xs.set 0 v_73, A2_24, c2_24, ys, q + 1 + 1, ⟨⟨(by first | omega | (simp only [List.length_append, List.length_set, List.length_cons, List.length_nil]; omega)), (by first | omega | (simp only [List.length_append, List.length_set, List.length_cons, List.length_nil]; omega)), ⟨(by first | omega | (simp only [List.length_append, List.length_set, List.length_cons, List.length_nil]; omega)), (by first | omega | (simp only [List.length_append, List.length_set, List.length_cons, List.length_nil]; omega))⟩, ⟨(by first | omega | (simp only [List.length_append, List.length_set, List.length_cons, List.length_nil]; omega)), (by first | omega | (simp only [List.length_append, List.length_set, List.length_cons, List.length_nil]; omega))⟩, hxs.set (by omega), hys⟩, by omega, by omega⟩, (by first | rfl | (simp only [List.length_append, List.length_set, hx1, hy1]; done) | (simp only [List.length_append, List.length_set, hx1, hy1]; rfl)), ((.consE (show row 3 1 A2_21 (1 + a0) (c2_21) (cells fI (xs.set 0 v_73)) = row 3 1 A2_21 ((xs.set 0 v_73).length) (c2_21) (cells fI (xs.set 0 v_73)) by first | rfl | (simp only [List.length_append, List.length_set, hx1, hy1]; done) | (simp only [List.length_append, List.length_set, hx1, hy1]; rfl)) (.head) (.consE (show row 3 1 A2_24 (1 + b0) (c2_24) (cells fI ys) = row 3 1 A2_24 ((ys).length) (c2_24) (cells fI ys) by first | rfl | (simp only [List.length_append, List.length_set, hx1, hy1]; done) | (simp only [List.length_append, List.length_set, hx1, hy1]; rfl)) (.tail (.tail .head)) (.cons (.head) ((.drop (.drop (.drop (.drop (.drop .refl)))))))) : Keep _ _).ss hw)⟩
    ·
      refine wl_v (ov_assign rfl) rfl rfl rfl ?_
      refine wl_nil ?_
      refine ce_then ?_
      refine cw_false rfl ?_
      refine cw_seq ?_
      refine cw_region ?_
      refine wl_if (ov_eql rfl rfl) rfl rfl rfl (fun c76 => ?_) (fun c76 => ?_)
      ·
        refine wl_v (ov_assign rfl) rfl rfl rfl ?_
        refine wl_nil ?_
        refine ce_then ?_
        refine cw_true rfl ?_
        refine cw_region ?_
        refine wl_v (ov_move rfl) rfl rfl rfl ?_
        refine wl_r (or_buildSlice (e := 3) (size := 1) (is := [0, 1, 2, 3, 4]) (vs := [.int .i64 (0), .int .i64 (0), .int .i64 (0), .int .i64 (0), .int .i64 (0)]) (cs := cells fI ([0, 0, 0, 0, 0])) rfl rfl rfl (by decide) (fun _ => by kernel_rfl)) rfl rfl (kt1 rfl (fun g78 => ?_))
        refine wl_r (or_append (c2 := 5) sI23 tI3 rfl (by decide) rfl rfl (.tail (.tail .head)) (holds_row (List.Mem.head _)) ((by rw [cells_length fI_len]; rfl)) (one_cells fI_one _) cells_append (by omega) (by omega)) rfl rfl (kt2p rfl (fun A79 c79 h79 => ?_))
        refine wl_v (ov_assign rfl) rfl rfl rfl ?_
        refine wl_nil ?_
        refine ce_block ?_
        refine ce_then ?_
        refine cw_seq ?_
        refine cw_region ?_
        refine wl_v (ov_move rfl) rfl rfl rfl ?_
        refine wl_v (ov_move rfl) rfl rfl rfl ?_
        refine wl_v (ov_assign rfl) rfl rfl rfl ?_
        refine wl_v (ov_assign rfl) rfl rfl rfl ?_
        refine wl_nil ?_
        refine ce_then ?_
        refine cw_ret ?_
        refine ce_results (v := .tuple #[.slice A2_21 (1 + a0) (c2_21), .slice A79 ((1 + b0) + 5) (c79)]) (res2 rfl (rv_t rfl) (rv_t rfl)) (fun w' hw => ?_)
        exact ⟨A2_21, c2_21, xs, A79, c79, ys ++ ([0, 0, 0, 0, 0]), q + 1, ⟨⟨(by first | omega | (simp only [List.length_append, List.length_set, List.length_cons, List.length_nil]; omega)), (by first | omega | (simp only [List.length_append, List.length_set, List.length_cons, List.length_nil]; omega)), ⟨(by first | omega | (simp only [List.length_append, List.length_set, List.length_cons, List.length_nil]; omega)), (by first | omega | (simp only [List.length_append, List.length_set, List.length_cons, List.length_nil]; omega))⟩, ⟨(by first | omega | (simp only [List.length_append, List.length_set, List.length_cons, List.length_nil]; omega)), (by first | omega | (simp only [List.length_append, List.length_set, List.length_cons, List.length_nil]; omega))⟩, hxs, hys.app (fun x hx => by simp only [List.mem_cons, List.not_mem_nil, or_false, or_self] at hx; omega)⟩, by omega, by omega⟩, (by first | rfl | (simp only [List.length_append, List.length_set, hx1, hy1]; done) | (simp only [List.length_append, List.length_set, hx1, hy1]; rfl)), ((.consE (show row 3 1 A2_21 (1 + a0) (c2_21) (cells fI xs) = row 3 1 A2_21 ((xs).length) (c2_21) (cells fI xs) by first | rfl | (simp only [List.length_append, List.length_set, hx1, hy1]; done) | (simp only [List.length_append, List.length_set, hx1, hy1]; rfl)) (.tail (.tail (.tail (.tail (.tail .head))))) (.consE (show row 3 1 A79 ((1 + b0) + 5) (c79) (cells fI (ys ++ ([0, 0, 0, 0, 0]))) = row 3 1 A79 ((ys ++ ([0, 0, 0, 0, 0])).length) (c79) (cells fI (ys ++ ([0, 0, 0, 0, 0]))) by first | rfl | (simp only [List.length_append, List.length_set, hx1, hy1]; done) | (simp only [List.length_append, List.length_set, hx1, hy1]; rfl)) (.head) (.cons (.tail .head) ((.drop (.drop (.drop (.drop (.drop .refl)))))))) : Keep _ _).ss hw)⟩
      ·
        refine wl_v (ov_assign rfl) rfl rfl rfl ?_
        refine wl_nil ?_
        refine ce_then ?_
        refine cw_false rfl ?_
        refine cw_skip ?_
        refine ce_block ?_
        refine ce_then ?_
        refine cw_seq ?_
        refine cw_region ?_
        refine wl_v (ov_move rfl) rfl rfl rfl ?_
        refine wl_v (ov_move rfl) rfl rfl rfl ?_
        refine wl_v (ov_assign rfl) rfl rfl rfl ?_
        refine wl_v (ov_assign rfl) rfl rfl rfl ?_
        refine wl_nil ?_
        refine ce_then ?_
        refine cw_ret ?_
        refine ce_results (v := .tuple #[.slice A2_21 (1 + a0) (c2_21), .slice A2_24 (1 + b0) (c2_24)]) (res2 rfl (rv_t rfl) (rv_t rfl)) (fun w' hw => ?_)
        exact ⟨A2_21, c2_21, xs, A2_24, c2_24, ys, q + 1, ⟨⟨(by first | omega | (simp only [List.length_append, List.length_set, List.length_cons, List.length_nil]; omega)), (by first | omega | (simp only [List.length_append, List.length_set, List.length_cons, List.length_nil]; omega)), ⟨(by first | omega | (simp only [List.length_append, List.length_set, List.length_cons, List.length_nil]; omega)), (by first | omega | (simp only [List.length_append, List.length_set, List.length_cons, List.length_nil]; omega))⟩, ⟨(by first | omega | (simp only [List.length_append, List.length_set, List.length_cons, List.length_nil]; omega)), (by first | omega | (simp only [List.length_append, List.length_set, List.length_cons, List.length_nil]; omega))⟩, hxs, hys⟩, by omega, by omega⟩, (by first | rfl | (simp only [List.length_append, List.length_set, hx1, hy1]; done) | (simp only [List.length_append, List.length_set, hx1, hy1]; rfl)), ((.consE (show row 3 1 A2_21 (1 + a0) (c2_21) (cells fI xs) = row 3 1 A2_21 ((xs).length) (c2_21) (cells fI xs) by first | rfl | (simp only [List.length_append, List.length_set, hx1, hy1]; done) | (simp only [List.length_append, List.length_set, hx1, hy1]; rfl)) (.tail (.tail (.tail (.tail .head)))) (.consE (show row 3 1 A2_24 (1 + b0) (c2_24) (cells fI ys) = row 3 1 A2_24 ((ys).length) (c2_24) (cells fI ys) by first | rfl | (simp only [List.length_append, List.length_set, hx1, hy1]; done) | (simp only [List.length_append, List.length_set, hx1, hy1]; rfl)) (.tail .head) (.cons (.head) ((.drop (.drop (.drop (.drop .refl))))))) : Keep _ _).ss hw)⟩
set_option maxRecDepth 100000 in
theorem DrawValidMargins_c (w : World) (Ar : Option Addr) (nr : Nat) (cr : Nat) (bs : List (Nat)) (hAr : At w Ar (cells fY bs)) (eAr : bs.length = nr) (lAr : nr ≤ cr) (hb : ∀ x ∈ bs, x < 256) : Calls Try.prog 9 #[.slice Ar (nr) (cr)] w (Ret fun rv w' => ∃ A1 c1 xs A2 c2 ys, (xs.length ≤ c1 ∧ ys.length ≤ c2 ∧ (1 ≤ xs.length ∧ xs.length ≤ 5) ∧ (1 ≤ ys.length ∧ ys.length ≤ 10) ∧ Sm xs ∧ Sm ys) ∧ rv = .tuple #[.slice A1 (xs.length) (c1), .slice A2 (ys.length) (c2)] ∧ New w w' [row 3 1 A1 (xs.length) (c1) (cells fI xs), row 3 1 A2 (ys.length) (c2) (cells fI ys)]) := by
  have oAr := hAr.atB
  subst eAr
  refine fn_enter (args := [.slice Ar (bs.length) (cr)]) Try.func9 rfl Try.ntmps9 rfl (SS.start w) ?_
  refine cw_seq ?_
  refine cw_region ?_
  refine wl_v (ov_assign rfl) rfl rfl rfl ?_
  refine wl_v (ov_assign rfl) rfl rfl rfl ?_
  refine wl_nil ?_
  refine ce_then ?_
  refine cw_seq ?_
  refine cw_region ?_
  refine wl_v (ov_move rfl) rfl rfl rfl ?_
  refine wl_r (or_call (fv := []) (vs := [.slice Ar (bs.length) (cr)]) (cs := []) en39 rfl rfl (call_x2 (fun w hw => newReader_c w Ar bs.length cr bs ((holds_old oAr) w hw) rfl lAr))) rfl rfl (kt2p rfl (fun g_5 n2_5 h_5 => ?_))
  refine wl_r (or_call (fv := []) (vs := [elp (some ⟨g_5, 0, none⟩) (0), .int .i64 (5)]) (cs := []) en38 rfl rfl (call_o (.cons (.head) (.nil)) (fun w hw => margins_c w _ _ _ 5 g_5 Ar n2_5 cr (bs.take n2_5) 0 (holds_takeC (k := n2_5) fY_len (holds_old oAr)) (by rw [List.length_take]; omega) (by omega) ⟨by omega, fun x hx => hb x (List.mem_of_mem_take hx), by omega⟩ (by first | assumption | omega | (simp; omega)) hw))) rfl rfl (kt7p rfl (fun A1_6 c1_6 xs_6 A2_6 c2_6 ys_6 q_6 h_6 => ?_))
  refine wl_v (ov_extract rfl rfl) rfl rfl rfl ?_
  refine wl_v (ov_extract rfl rfl) rfl rfl rfl ?_
  refine wl_v (ov_assign rfl) rfl rfl rfl ?_
  refine wl_v (ov_assign rfl) rfl rfl rfl ?_
  refine wl_nil ?_
  refine ce_then ?_
  refine cw_ret ?_
  refine ce_results (v := .tuple #[.slice A1_6 (xs_6.length) (c1_6), .slice A2_6 (ys_6.length) (c2_6)]) (res2 rfl (rv_t rfl) (rv_t rfl)) (fun w' hw => ?_)
  exact ⟨A1_6, c1_6, xs_6, A2_6, c2_6, ys_6, h_6.1, rfl, ((.cons (.head) (.cons (.head) (.nil)) : Keep _ _).ss hw).to_new⟩
set_option maxRecDepth 100000 in
theorem DrawGaleSlacks_c (w : World) (Ar : Option Addr) (nr : Nat) (cr : Nat) (bs : List (Nat)) (hAr : At w Ar (cells fY bs)) (eAr : bs.length = nr) (lAr : nr ≤ cr) (hb : ∀ x ∈ bs, x < 256) : Calls Try.prog 13 #[.slice Ar (nr) (cr)] w (Ret fun rv w' => ∃ A1 c1 xs A2 c2 ys, (xs.length ≤ c1 ∧ ys.length ≤ c2 ∧ (1 ≤ xs.length ∧ xs.length ≤ 5) ∧ (1 ≤ ys.length ∧ ys.length ≤ 10) ∧ Sm xs ∧ Sm ys) ∧ rv = .tuple #[.slice A1 (xs.length) (c1), .slice A2 (ys.length) (c2)] ∧ New w w' [row 3 1 A1 (xs.length) (c1) (cells fI xs), row 3 1 A2 (ys.length) (c2) (cells fI ys)]) := by
  have oAr := hAr.atB
  subst eAr
  refine fn_enter (args := [.slice Ar (bs.length) (cr)]) Try.func13 rfl Try.ntmps13 rfl (SS.start w) ?_
  refine cw_seq ?_
  refine cw_region ?_
  refine wl_v (ov_assign rfl) rfl rfl rfl ?_
  refine wl_v (ov_assign rfl) rfl rfl rfl ?_
  refine wl_nil ?_
  refine ce_then ?_
  refine cw_seq ?_
  refine cw_region ?_
  refine wl_v (ov_move rfl) rfl rfl rfl ?_
  refine wl_r (or_call (fv := []) (vs := [.slice Ar (bs.length) (cr)]) (cs := []) en39 rfl rfl (call_x2 (fun w hw => newReader_c w Ar bs.length cr bs ((holds_old oAr) w hw) rfl lAr))) rfl rfl (kt2p rfl (fun g_5 n2_5 h_5 => ?_))
  refine wl_r (or_call (fv := []) (vs := [elp (some ⟨g_5, 0, none⟩) (0), .int .i64 (5)]) (cs := []) en38 rfl rfl (call_o (.cons (.head) (.nil)) (fun w hw => margins_c w _ _ _ 5 g_5 Ar n2_5 cr (bs.take n2_5) 0 (holds_takeC (k := n2_5) fY_len (holds_old oAr)) (by rw [List.length_take]; omega) (by omega) ⟨by omega, fun x hx => hb x (List.mem_of_mem_take hx), by omega⟩ (by first | assumption | omega | (simp; omega)) hw))) rfl rfl (kt7p rfl (fun A1_6 c1_6 xs_6 A2_6 c2_6 ys_6 q_6 h_6 => ?_))
  refine wl_v (ov_extract rfl rfl) rfl rfl rfl ?_
  refine wl_v (ov_extract rfl rfl) rfl rfl rfl ?_
  refine wl_v (ov_assign rfl) rfl rfl rfl ?_
  refine wl_v (ov_assign rfl) rfl rfl rfl ?_
  refine wl_nil ?_
  refine ce_then ?_
  refine cw_ret ?_
  refine ce_results (v := .tuple #[.slice A1_6 (xs_6.length) (c1_6), .slice A2_6 (ys_6.length) (c2_6)]) (res2 rfl (rv_t rfl) (rv_t rfl)) (fun w' hw => ?_)
  exact ⟨A1_6, c1_6, xs_6, A2_6, c2_6, ys_6, h_6.1, rfl, ((.cons (.head) (.cons (.head) (.nil)) : Keep _ _).ss hw).to_new⟩
set_option maxRecDepth 100000 in
theorem DrawFillMatrix_c (w : World) (Ar : Option Addr) (nr : Nat) (cr : Nat) (bs : List (Nat)) (hAr : At w Ar (cells fY bs)) (eAr : bs.length = nr) (lAr : nr ≤ cr) (hb : ∀ x ∈ bs, x < 256) : Calls Try.prog 24 #[.slice Ar (nr) (cr)] w (Ret fun rv w' => ∃ A1 c1 xs A2 c2 ys, (xs.length ≤ c1 ∧ ys.length ≤ c2 ∧ (1 ≤ xs.length ∧ xs.length ≤ 5) ∧ (1 ≤ ys.length ∧ ys.length ≤ 10) ∧ Sm xs ∧ Sm ys) ∧ rv = .tuple #[.slice A1 (xs.length) (c1), .slice A2 (ys.length) (c2)] ∧ New w w' [row 3 1 A1 (xs.length) (c1) (cells fI xs), row 3 1 A2 (ys.length) (c2) (cells fI ys)]) := by
  have oAr := hAr.atB
  subst eAr
  refine fn_enter (args := [.slice Ar (bs.length) (cr)]) Try.func24 rfl Try.ntmps24 rfl (SS.start w) ?_
  refine cw_seq ?_
  refine cw_region ?_
  refine wl_v (ov_assign rfl) rfl rfl rfl ?_
  refine wl_v (ov_assign rfl) rfl rfl rfl ?_
  refine wl_nil ?_
  refine ce_then ?_
  refine cw_seq ?_
  refine cw_region ?_
  refine wl_v (ov_move rfl) rfl rfl rfl ?_
  refine wl_r (or_call (fv := []) (vs := [.slice Ar (bs.length) (cr)]) (cs := []) en39 rfl rfl (call_x2 (fun w hw => newReader_c w Ar bs.length cr bs ((holds_old oAr) w hw) rfl lAr))) rfl rfl (kt2p rfl (fun g_5 n2_5 h_5 => ?_))
  refine wl_r (or_call (fv := []) (vs := [elp (some ⟨g_5, 0, none⟩) (0), .int .i64 (5)]) (cs := []) en38 rfl rfl (call_o (.cons (.head) (.nil)) (fun w hw => margins_c w _ _ _ 5 g_5 Ar n2_5 cr (bs.take n2_5) 0 (holds_takeC (k := n2_5) fY_len (holds_old oAr)) (by rw [List.length_take]; omega) (by omega) ⟨by omega, fun x hx => hb x (List.mem_of_mem_take hx), by omega⟩ (by first | assumption | omega | (simp; omega)) hw))) rfl rfl (kt7p rfl (fun A1_6 c1_6 xs_6 A2_6 c2_6 ys_6 q_6 h_6 => ?_))
  refine wl_v (ov_extract rfl rfl) rfl rfl rfl ?_
  refine wl_v (ov_extract rfl rfl) rfl rfl rfl ?_
  refine wl_v (ov_assign rfl) rfl rfl rfl ?_
  refine wl_v (ov_assign rfl) rfl rfl rfl ?_
  refine wl_nil ?_
  refine ce_then ?_
  refine cw_ret ?_
  refine ce_results (v := .tuple #[.slice A1_6 (xs_6.length) (c1_6), .slice A2_6 (ys_6.length) (c2_6)]) (res2 rfl (rv_t rfl) (rv_t rfl)) (fun w' hw => ?_)
  exact ⟨A1_6, c1_6, xs_6, A2_6, c2_6, ys_6, h_6.1, rfl, ((.cons (.head) (.cons (.head) (.nil)) : Keep _ _).ss hw).to_new⟩
set_option maxRecDepth 100000 in
theorem ValidMarginsS_c (w : World) (A : Option Addr) (n : Nat) (c : Nat) (xs : List (Int)) (A2 : Option Addr) (n2 : Nat) (c2 : Nat) (ys : List (Int)) (hA : At w A (cells fI xs)) (eA : xs.length = n) (lA : n ≤ c) (hA2 : At w A2 (cells fI ys)) (eA2 : ys.length = n2) (lA2 : n2 ≤ c2) (hs : xs.length ≤ 1048576 ∧ ys.length ≤ 1048576) : Calls Try.prog 11 #[.slice A (n) (c), .slice A2 (n2) (c2)] w (Ret fun rv w' => rv = .bool (decide (ValidM xs ys)) ∧ New w w' []) := by
  have oA := hA.atB
  subst eA
  have oA2 := hA2.atB
  subst eA2
  refine fn_enter (args := [.slice A (xs.length) (c), .slice A2 (ys.length) (c2)]) Try.func11 rfl Try.ntmps11 rfl (SS.start w) ?_
  refine cw_seq ?_
  refine cw_region ?_
  refine wl_v (ov_assign rfl) rfl rfl rfl ?_
  refine wl_nil ?_
  refine ce_then ?_
  refine cw_seq ?_
  refine cw_region ?_
  refine wl_v (ov_move rfl) rfl rfl rfl ?_
  refine wl_v (ov_move rfl) rfl rfl rfl ?_
  refine wl_r (or_call (fv := []) (vs := [.slice A (xs.length) (c), .slice A2 (ys.length) (c2)]) (cs := []) en42 rfl rfl (call_v (fun w hw => validMS_c w A xs.length c xs A2 ys.length c2 ys ((holds_old oA) w hw) rfl lA ((holds_old oA2) w hw) rfl lA2 (by first | assumption | omega | (simp; omega))))) rfl rfl (kt_if rfl (fun c7 => ?_) (fun c7 => ?_))
  ·
    refine wl_v (ov_assign rfl) rfl rfl rfl ?_
    refine wl_nil ?_
    refine ce_then ?_
    refine cw_ret ?_
    refine ce_results (v := .bool true) (res1 rfl (rv_t rfl)) (fun w' hw => ?_)
    exact ⟨bt (by first | assumption | omega | simp_all), (Keep.nil.ss hw).to_new⟩
  ·
    refine wl_v (ov_assign rfl) rfl rfl rfl ?_
    refine wl_nil ?_
    refine ce_then ?_
    refine cw_ret ?_
    refine ce_results (v := .bool false) (res1 rfl (rv_t rfl)) (fun w' hw => ?_)
    exact ⟨bf (by first | assumption | omega | simp_all), (Keep.nil.ss hw).to_new⟩
end Go.Proofs.Ytholcpgoioaccaa.W30
