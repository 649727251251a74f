/- Walks of functions of the given program: each returns what its Lean function says and leaves the memory that was there as it was. Conditions: those of each theorem. -/
import Derived.Test.YthbfgkeoojghoaaSm
import Derived.Test.YthbfgkeoojghoaaProg
import Derived.Test.YthbfgkeoojghoaaPl
import Derived.Test.YthbfgkeoojghoaaPo
import Derived.Test.YthbfgkeoojghoaaPd
import Derived.Test.YthbfgkeoojghoaaPe
import Derived.Test.YthbfgkeoojghoaaPh
import Derived.Test.YthbfgkeoojghoaaPm
import Derived.Test.YthbfgkeoojghoaaPc
import Derived.Test.YthbfgkeoojghoaaPs
import Derived.Test.YthbfgkeoojghoaaPt
import Derived.Test.YthbfgkeoojghoaaPu
import Derived.Test.YthbfgkeoojghoaaPv
import Derived.Test.YthbfgkeoojghoaaPw
import Derived.Test.YthbfgkeoojghoaaPx
import Derived.Test.YthbfgkeoojghoaaPy
import Derived.Test.YthbfgkeoojghoaaPz
import Derived.Test.YthbfgkeoojghoaaSo
import Derived.Test.YthbfgkeoojghoaaSh
import Derived.Test.YthbfgkeoojghoaaT
import Derived.Test.YthbfgkeoojghoaaW11
import Derived.KernelRfl
namespace Go.Proofs.Ythbfgkeoojghoaa.W30
open Go.Sx Go.RowKit Go.Proofs.Ythbfgkeoojghoaa.T Go.Proofs.Ythbfgkeoojghoaa.W11
open Go.Plain
set_option linter.unusedVariables false
set_option maxRecDepth 100000 in
theorem aMatrix_c (w w0 : World) (Bd : Nat) (F : List Ent) (a : Nat) (b : Nat) (g : Nat) (Ar : Option Addr) (nr : Nat) (cr : Nat) (bs : List Nat) (p : Nat) (hAr : Holds (SS w0 Bd F) Ar (cells fY bs)) (eAr : bs.length = nr) (lAr : nr ≤ cr) (hy : nr ≤ 2000 ∧ (∀ x ∈ bs, x < 256) ∧ p ≤ 99000) (hab : a ≤ 5 ∧ b ≤ 5) (hss : SS w0 Bd ((blk g [.slice Ar (nr) (cr), .int .i64 (((p : Nat) : Int))] 92) :: F) w) : Calls Try.prog 46 #[elp (some ⟨g, 0, none⟩) (0), .int .i64 (((a : Nat) : Int)), .int .i64 (((b : Nat) : Int))] w (Ret fun rv w' => ∃ A2 c2 hs2 m q, ((m.length ≤ c2 ∧ m.length = a ∧ M01 b m) ∧ p ≤ q ∧ q ≤ p + 25) ∧ rv = .slice A2 (m.length) (c2) ∧ SS w0 Bd ((row 27 1 A2 (m.length) (c2) (cells fL hs2)) :: (nest 3 1 fI hs2 m) :: (blk g [.slice Ar (nr) (cr), .int .i64 (((q : Nat) : Int))] 92) :: F) w') := by
  refine fn_enter (args := [elp (some ⟨g, 0, none⟩) (0), .int .i64 (((a : Nat) : Int)), .int .i64 (((b : Nat) : Int))]) Try.func46 rfl Try.ntmps46 rfl hss ?_
  refine cw_seq ?_
  refine cw_region ?_
  refine wl_v (ov_assign rfl) rfl rfl rfl ?_
  refine wl_nil ?_
  refine ce_then ?_
  refine cw_seq ?_
  refine cw_region ?_
  refine wl_r (or_buildSlice (e := 27) (size := 1) (is := []) (vs := []) (cs := cells fL ([])) rfl rfl rfl (by decide) (fun _ => by kernel_rfl)) rfl rfl (kt1 rfl (fun g11 => ?_))
  refine wl_v (ov_assign rfl) rfl rfl rfl ?_
  refine wl_nil ?_
  refine ce_then ?_
  refine cw_seq ?_
  refine cw_seq ?_
  refine ct_nest0 3 1 fI ?_
  refine cw_region ?_
  refine wl_v (ov_assign rfl) rfl rfl rfl ?_
  refine wl_nil ?_
  refine ce_then ?_
  refine cw_block ?_
  refine cw_loop6 (fun (i : Nat) (A3 : Option Addr) (c3 : Nat) (hs3 : List Hd) (m : Mat) (q : Nat) => [(0, elp (some ⟨g, 0, none⟩) (0)), (1, .int .i64 (((a : Nat) : Int))), (2, .int .i64 (((b : Nat) : Int))), (6, .slice none (0) (0)), (7, .slice A3 (m.length) (c3)), (8, .int .i64 (((i : Nat) : Int)))]) (fun (i : Nat) (A3 : Option Addr) (c3 : Nat) (hs3 : List Hd) (m : Mat) (q : Nat) => (nest 3 1 fI hs3 m) :: (row 27 1 A3 (m.length) (c3) (cells fL hs3)) :: (blk g [.slice Ar (nr) (cr), .int .i64 (((q : Nat) : Int))] 92) :: F) (fun (i : Nat) (A3 : Option Addr) (c3 : Nat) (hs3 : List Hd) (m : Mat) (q : Nat) => i ≤ a ∧ m.length ≤ c3 ∧ m.length = i ∧ (∀ r ∈ m, r.length = b ∧ ∀ x ∈ r, 0 ≤ x ∧ x ≤ 1) ∧ p ≤ q ∧ q ≤ p + 5 * i) (fun (i : Nat) (A3 : Option Addr) (c3 : Nat) (hs3 : List Hd) (m : Mat) (q : Nat) => a - i) 0 (some ⟨g11, 0, none⟩) 0 ([]) ([]) p ⟨by omega, Nat.le_refl _, rfl, fun r hr => (by cases hr), by omega, by omega⟩ (.cons rfl (.cons rfl (.cons rfl (.cons rfl (.cons rfl (.cons (congrArg (fun z => some (Value.int .i64 z)) (show 0 = ((0 : Nat) : Int) by first | omega | rfl | (simp; done))) (.nil))))))) (.cons (.head) (.cons (.head) (.cons (.head) (.refl)))) ?_
  intro R0 i A3 c3 hs3 m q hk hR0
  obtain ⟨hk1, hk2, hk3, hk4, hk5, hk6⟩ := hk
  refine cw_seq ?_
  refine cw_seq ?_
  refine cw_region ?_
  refine wl_v (ov_move rfl) rfl rfl rfl ?_
  refine wl_v (ov_move rfl) rfl rfl rfl ?_
  refine wl_if (ov_lss rfl rfl) rfl rfl rfl (fun c14 => ?_) (fun c14 => ?_)
  ·
    refine wl_nil ?_
    refine ce_then ?_
    refine cw_true rfl ?_
    refine cw_skip ?_
    refine ce_then ?_
    refine cw_seq ?_
    refine cw_block ?_
    refine cw_seq ?_
    refine cw_region ?_
    refine wl_r (or_buildSlice (e := 3) (size := 1) (is := []) (vs := []) (cs := cells fI ([])) rfl rfl rfl (by decide) (fun _ => by kernel_rfl)) rfl rfl (kt1 rfl (fun g17 => ?_))
    refine wl_v (ov_assign rfl) rfl rfl rfl ?_
    refine wl_nil ?_
    refine ce_then ?_
    refine cw_seq ?_
    refine cw_seq ?_
    refine cw_region ?_
    refine wl_v (ov_assign rfl) rfl rfl rfl ?_
    refine wl_nil ?_
    refine ce_then ?_
    refine cw_block ?_
    refine cw_loop5 (fun (k : Nat) (A4 : Option Addr) (c4 : Nat) (rw : List Int) (q2 : Nat) => [(0, elp (some ⟨g, 0, none⟩) (0)), (1, .int .i64 (((a : Nat) : Int))), (2, .int .i64 (((b : Nat) : Int))), (6, .slice none (0) (0)), (7, .slice A3 (m.length) (c3)), (8, .int .i64 (((i : Nat) : Int))), (9, .slice A4 (rw.length) (c4)), (10, .int .i64 (((k : Nat) : Int)))]) (fun (k : Nat) (A4 : Option Addr) (c4 : Nat) (rw : List Int) (q2 : Nat) => (row 3 1 A4 (rw.length) (c4) (cells fI rw)) :: (nest 3 1 fI hs3 m) :: (row 27 1 A3 (m.length) (c3) (cells fL hs3)) :: (blk g [.slice Ar (nr) (cr), .int .i64 (((q2 : Nat) : Int))] 92) :: F) (fun (k : Nat) (A4 : Option Addr) (c4 : Nat) (rw : List Int) (q2 : Nat) => (k ≤ b ∧ rw.length = k) ∧ rw.length ≤ c4 ∧ (∀ x ∈ rw, 0 ≤ x ∧ x ≤ 1) ∧ q ≤ q2 ∧ q2 ≤ q + k) (fun (k : Nat) (A4 : Option Addr) (c4 : Nat) (rw : List Int) (q2 : Nat) => b - k) 0 (some ⟨g17, 0, none⟩) 0 ([]) q ⟨⟨by omega, rfl⟩, Nat.le_refl _, fun x hx => (by cases hx), by omega, by omega⟩ (.cons rfl (.cons rfl (.cons rfl (.cons rfl (.cons rfl (.cons rfl (.cons rfl (.cons (congrArg (fun z => some (Value.int .i64 z)) (show 0 = ((0 : Nat) : Int) by first | omega | rfl | (simp; done))) (.nil))))))))) (.cons (.head) (.cons (.head) (.cons (.head) (.cons (.head) (.refl))))) ?_
    intro R1 k A4 c4 rw q2 hk1 hR1
    obtain ⟨⟨hj1, hjl⟩, hj2, hj3, hj4, hj5⟩ := hk1
    refine cw_seq ?_
    refine cw_seq ?_
    refine cw_region ?_
    refine wl_v (ov_move rfl) rfl rfl rfl ?_
    refine wl_v (ov_move rfl) rfl rfl rfl ?_
    refine wl_if (ov_lss rfl rfl) rfl rfl rfl (fun c20 => ?_) (fun c20 => ?_)
    ·
      refine wl_nil ?_
      refine ce_then ?_
      refine cw_true rfl ?_
      refine cw_skip ?_
      refine ce_then ?_
      refine cw_seq ?_
      refine cw_block ?_
      refine cw_region ?_
      refine wl_v (ov_move rfl) rfl rfl rfl ?_
      refine wl_v (ov_move rfl) rfl rfl rfl ?_
      refine wl_r (or_call (fv := []) (vs := [elp (some ⟨g, 0, none⟩) (0), .int .i64 (2)]) (cs := []) en43 rfl rfl (call_o (.cons (.tail (.tail (.tail .head))) (.cons (.head) (.cons (.head) (.cons (.head) (.refl))))) (fun w hw => pick_c w _ _ _ 2 g Ar nr cr bs q2 (Holds.keepF hAr ((.drop (.drop (.drop .refl))))) (by first | rfl | assumption | (simp; done) | (simp; omega)) lAr ⟨hy.1, hy.2.1, by omega⟩ (by first | assumption | omega | (simp; omega)) hw))) rfl rfl (kt1p rfl (fun v_25 h_25 => ?_))
      refine wl_r (or_buildSlice (e := 3) (size := 1) (is := [0]) (vs := [.int .i64 (v_25)]) (cs := cells fI ([v_25])) rfl rfl rfl (by decide) (fun _ => by kernel_rfl)) rfl rfl (kt1 rfl (fun g26 => ?_))
      refine wl_r (or_append (c2 := 1) sI27 tI3 rfl (by decide) rfl rfl (.tail (.tail .head)) (holds_row (List.Mem.head _)) (by rw [cells_length fI_len]; try simp) (one_cells fI_one _) cells_append (by omega) (by omega)) rfl rfl (kt2p rfl (fun A27 c27 h27 => ?_))
      refine wl_v (ov_assign rfl) rfl rfl rfl ?_
      refine wl_nil ?_
      refine ce_block ?_
      refine ce_then ?_
      refine cw_region ?_
      refine wl_v (ov_move rfl) rfl rfl rfl ?_
      refine wl_v (ov_add (r := ((k + 1 : Nat) : Int)) rfl rfl rfl (by omega)) rfl rfl rfl ?_
      refine wl_v (ov_assign rfl) rfl rfl rfl ?_
      refine wl_nil ?_
      exact fun ac_ w_ hs_ => hR1 (k + 1) A27 c27 (rw ++ ([v_25])) (q2 + 1) ⟨⟨by omega, by rw [List.length_append, hjl]; rfl⟩, by rw [List.length_append]; exact h27, fun x hx => (by rcases List.mem_append.1 hx with h | h; exact hj3 x h; simp only [List.mem_singleton] at h; subst h; simp at h_25; omega), by omega, by omega⟩ (by omega) ac_ w_ (hs_.weaken (.cons rfl (.cons rfl (.cons rfl (.cons rfl (.cons rfl (.cons rfl (.cons (congrArg (fun z => some (Value.slice A27 z c27)) (show (rw.length + 1) = ((rw ++ ([v_25])).length) from (by rw [List.length_append]; rfl))) (.cons rfl (.nil))))))))) (.consE (show row 3 1 A27 (rw.length + 1) (c27) (cells fI (rw ++ ([v_25]))) = row 3 1 A27 ((rw ++ ([v_25])).length) (c27) (cells fI (rw ++ ([v_25]))) by rw [List.length_append]; rfl) (.head) (.cons (.tail (.tail .head)) (.cons (.tail (.tail .head)) (.cons (.tail .head) ((.drop .refl)))))))
    ·
      refine wl_nil ?_
      refine ce_then ?_
      refine cw_false rfl ?_
      refine cw_exit ?_
      refine ce_then_exit ?_
      refine ce_then_exit ?_
      refine ce_hit ?_
      refine ce_then ?_
      refine cw_region ?_
      refine wl_v (ov_move rfl) rfl rfl rfl ?_
      refine wl_v (ov_move rfl) rfl rfl rfl ?_
      refine wl_r (or_buildSlice (e := 27) (size := 1) (is := [0]) (vs := [.slice A4 (rw.length) (c4)]) (cs := cells fL ([(A4, rw.length, c4)])) rfl rfl rfl (by decide) (fun _ => by kernel_rfl)) rfl rfl (kt1 rfl (fun g30 => ?_))
      refine wl_r (or_append (c2 := 1) sI50 tI27 rfl (by decide) rfl rfl (.tail (.tail (.tail .head))) (holds_row (List.Mem.head _)) (by rw [cells_length fL_len]; try simp) (one_cells fL_one _) cells_append (by omega) (by omega)) rfl rfl (kt2p rfl (fun A31 c31 h31 => ?_))
      refine ct_push (k := c4) (.cons (.tail (.tail (.tail .head))) (.cons (.tail (.tail .head)) (.cons (.head) (.cons (.head) (.cons (.head) (.refl)))))) (rfl) (hj2) ?_
      refine wl_v (ov_assign rfl) rfl rfl rfl ?_
      refine wl_nil ?_
      refine ce_block ?_
      refine ce_then ?_
      refine cw_region ?_
      refine wl_v (ov_move rfl) rfl rfl rfl ?_
      refine wl_v (ov_add (r := ((i + 1 : Nat) : Int)) rfl rfl rfl (by omega)) rfl rfl rfl ?_
      refine wl_v (ov_assign rfl) rfl rfl rfl ?_
      refine wl_nil ?_
      exact fun ac_ w_ hs_ => hR0 (i + 1) A31 c31 (hs3 ++ ([(A4, rw.length, c4)])) (m ++ [rw]) q2 ⟨by omega, by rw [List.length_append]; exact h31, by rw [List.length_append, hk3]; rfl, fun r hr => (by rcases List.mem_append.1 hr with h | h; exact hk4 r h; simp only [List.mem_singleton] at h; subst h; exact ⟨by omega, hj3⟩), by omega, by omega⟩ (by omega) ac_ w_ (hs_.weaken (.cons rfl (.cons rfl (.cons rfl (.cons rfl (.cons (congrArg (fun z => some (Value.slice A31 z c31)) (show (m.length + 1) = ((m ++ [rw]).length) from (by rw [List.length_append]; rfl))) (.cons rfl (.nil))))))) (.cons (.head) (.consE (show row 27 1 A31 (m.length + 1) (c31) (cells fL (hs3 ++ ([(A4, rw.length, c4)]))) = row 27 1 A31 ((m ++ [rw]).length) (c31) (cells fL (hs3 ++ ([(A4, rw.length, c4)]))) by rw [List.length_append]; rfl) (.head) (.cons (.tail .head) ((.drop .refl))))))
  ·
    refine wl_nil ?_
    refine ce_then ?_
    refine cw_false rfl ?_
    refine cw_exit ?_
    refine ce_then_exit ?_
    refine ce_then_exit ?_
    refine ce_hit ?_
    refine ce_then ?_
    refine cw_seq ?_
    refine cw_region ?_
    refine wl_v (ov_move rfl) rfl rfl rfl ?_
    refine wl_v (ov_assign rfl) rfl rfl rfl ?_
    refine wl_nil ?_
    refine ce_then ?_
    refine cw_ret ?_
    refine ce_results (v := .slice A3 (m.length) (c3)) (res1 rfl (rv_t rfl)) (fun w' hw => ?_)
    exact ⟨A3, c3, hs3, m, q, ⟨⟨hk2, by omega, hk4⟩, by omega, by omega⟩, rfl, ((.cons (.tail .head) (.cons (.head) (.cons (.head) (.refl))) : Keep _ _).ss hw)⟩
end Go.Proofs.Ythbfgkeoojghoaa.W30
