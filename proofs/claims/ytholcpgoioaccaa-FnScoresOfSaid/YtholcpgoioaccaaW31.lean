/- Walks of functions of the given program: each returns what its Lean function says and leaves the memory that was there as it was. Conditions: those of each theorem. -/
import Derived.Test.YtholcpgoioaccaaSm
import Derived.Test.YtholcpgoioaccaaProg
import Derived.Test.YtholcpgoioaccaaPl
import Derived.Test.YtholcpgoioaccaaPo
import Derived.Test.YtholcpgoioaccaaPd
import Derived.Test.YtholcpgoioaccaaPe
import Derived.Test.YtholcpgoioaccaaPh
import Derived.Test.YtholcpgoioaccaaPm
import Derived.Test.YtholcpgoioaccaaPc
import Derived.Test.YtholcpgoioaccaaPs
import Derived.Test.YtholcpgoioaccaaPt
import Derived.Test.YtholcpgoioaccaaPu
import Derived.Test.YtholcpgoioaccaaPv
import Derived.Test.YtholcpgoioaccaaSo
import Derived.Test.YtholcpgoioaccaaSh
import Derived.Test.YtholcpgoioaccaaT
import Derived.Test.YtholcpgoioaccaaW11
import Derived.Test.YtholcpgoioaccaaW30
import Derived.KernelRfl
namespace Go.Proofs.Ytholcpgoioaccaa.W31
open Go.Sx Go.RowKit Go.Proofs.Ytholcpgoioaccaa.T Go.Proofs.Ytholcpgoioaccaa.W11 Go.Proofs.Ytholcpgoioaccaa.W30
open Go.Plain
set_option linter.unusedVariables false
set_option maxRecDepth 100000 in
theorem aTour_c (w w0 : World) (Bd : Nat) (F : List Ent) (g : Nat) (Ar : Option Addr) (nr : Nat) (cr : Nat) (bs : List Nat) (p : Nat) (hAr : Holds (SS w0 Bd F) Ar (cells fY bs)) (eAr : bs.length = nr) (lAr : nr ≤ cr) (hy : nr ≤ 2000 ∧ (∀ x ∈ bs, x < 256) ∧ p ≤ 98000) (hss : SS w0 Bd ((blk g [.slice Ar (nr) (cr), .int .i64 (((p : Nat) : Int))] 59) :: F) w) : Calls Try.prog 81 #[elp (some ⟨g, 0, none⟩) (0)] w (Ret fun rv w' => ∃ A2 c2 hs2 m q, ((m.length ≤ c2 ∧ (1 ≤ m.length ∧ m.length ≤ 5) ∧ M01 m.length m) ∧ p ≤ q ∧ q ≤ p + 30) ∧ rv = .slice A2 (m.length) (c2) ∧ SS w0 Bd ((row 23 1 A2 (m.length) (c2) (cells fL hs2)) :: (nest 3 1 fI hs2 m) :: (blk g [.slice Ar (nr) (cr), .int .i64 (((q : Nat) : Int))] 59) :: F) w') := by
  refine fn_enter (args := [elp (some ⟨g, 0, none⟩) (0)]) Try.func81 rfl Try.ntmps81 rfl hss ?_
  refine cw_seq ?_
  refine cw_region ?_
  refine wl_v (ov_assign rfl) rfl rfl rfl ?_
  refine wl_nil ?_
  refine ce_then ?_
  refine cw_seq ?_
  refine cw_region ?_
  refine wl_v (ov_move rfl) rfl rfl rfl ?_
  refine wl_r (or_buildSlice (e := 3) (size := 1) (is := [0, 1, 2, 3, 4]) (vs := [.int .i64 (4), .int .i64 (3), .int .i64 (5), .int .i64 (2), .int .i64 (1)]) (cs := cells fI ([4, 3, 5, 2, 1])) rfl rfl rfl (by decide) (fun _ => by kernel_rfl)) rfl rfl (kt1 rfl (fun g9 => ?_))
  refine wl_r (or_call (fv := []) (vs := [elp (some ⟨g, 0, none⟩) (0), .slice (some ⟨g9, 0, none⟩) (5) (5)]) (cs := []) en74 rfl rfl (call_o (.cons (.tail .head) (.cons (.head) (.refl))) (fun w hw => one_c w _ _ _ (some ⟨g9, 0, none⟩) 5 5 ([4, 3, 5, 2, 1]) g Ar nr cr bs p (holds_row (List.Mem.head _)) (by first | rfl | assumption | (simp; done) | (simp; omega)) (Nat.le_refl _) (Holds.keepF hAr ((.drop .refl))) (by first | rfl | assumption | (simp; done) | (simp; omega)) lAr ⟨hy.1, hy.2.1, by omega⟩ (by first | assumption | omega | (simp; omega)) hw))) rfl rfl (kt1p rfl (fun v_10 h_10 => ?_))
  have b10 : 1 ≤ v_10 ∧ v_10 ≤ 5 := (by simp at h_10; omega)
  obtain ⟨a, rfl⟩ := Int.eq_ofNat_of_zero_le (show 0 ≤ v_10 from (by simp at h_10; omega))
  have ha : 1 ≤ a ∧ a ≤ 5 := (by omega)
  refine wl_v (ov_assign rfl) rfl rfl rfl ?_
  refine wl_nil ?_
  refine ce_then ?_
  refine cw_seq ?_
  refine ct_nest0 3 1 fI ?_
  refine cw_region ?_
  refine wl_r (or_buildSlice (e := 23) (size := 1) (is := []) (vs := []) (cs := cells fL ([])) rfl rfl rfl (by decide) (fun _ => by kernel_rfl)) rfl rfl (kt1 rfl (fun g11 => ?_))
  refine wl_v (ov_assign rfl) rfl rfl rfl ?_
  refine wl_nil ?_
  refine ce_then ?_
  refine cw_seq ?_
  refine cw_seq ?_
  refine cw_region ?_
  refine wl_v (ov_assign rfl) rfl rfl rfl ?_
  refine wl_nil ?_
  refine ce_then ?_
  refine cw_block ?_
  refine cw_loop5 (fun (i : Nat) (A3 : Option Addr) (c3 : Nat) (hs3 : List Hd) (m : Mat) => [(0, elp (some ⟨g, 0, none⟩) (0)), (2, .slice none (0) (0)), (3, .int .i64 (((a : Nat) : Int))), (4, .slice A3 (i) (c3)), (5, .int .i64 (((i : Nat) : Int)))]) (fun (i : Nat) (A3 : Option Addr) (c3 : Nat) (hs3 : List Hd) (m : Mat) => (row 23 1 A3 (i) (c3) (cells fL hs3)) :: (nest 3 1 fI hs3 m) :: (blk g [.slice Ar (nr) (cr), .int .i64 (((p + 1 : Nat) : Int))] 59) :: (row 3 1 (some ⟨g9, 0, none⟩) (5) (5) (cells fI ([4, 3, 5, 2, 1]))) :: F) (fun (i : Nat) (A3 : Option Addr) (c3 : Nat) (hs3 : List Hd) (m : Mat) => i ≤ a ∧ i ≤ c3 ∧ m.length = i ∧ M01 a m) (fun (i : Nat) (A3 : Option Addr) (c3 : Nat) (hs3 : List Hd) (m : Mat) => a - i) 0 (some ⟨g11, 0, none⟩) 0 ([]) ([]) ⟨by omega, Nat.le_refl _, rfl, fun r hr => (by cases hr)⟩ (.cons rfl (.cons rfl (.cons rfl (.cons rfl (.cons (congrArg (fun z => some (Value.int .i64 z)) (show 0 = ((0 : Nat) : Int) by first | omega | rfl | (simp; done))) (.nil)))))) (.cons (.head) (.cons (.head) (.cons (.head) (.cons (.head) (.refl))))) ?_
  intro R0 i A3 c3 hs3 m hk hR0
  obtain ⟨hk1, hk2, hk3, hk4⟩ := hk
  refine cw_seq ?_
  refine cw_seq ?_
  refine cw_region ?_
  refine wl_v (ov_move rfl) rfl rfl rfl ?_
  refine wl_v (ov_move rfl) rfl rfl rfl ?_
  refine wl_if (ov_lss rfl rfl) rfl rfl rfl (fun c14 => ?_) (fun c14 => ?_)
  ·
    refine wl_nil ?_
    refine ce_then ?_
    refine cw_true rfl ?_
    refine cw_skip ?_
    refine ce_then ?_
    refine cw_seq ?_
    refine cw_block ?_
    refine cw_region ?_
    refine wl_v (ov_move rfl) rfl rfl rfl ?_
    refine wl_v (ov_move rfl) rfl rfl rfl ?_
    refine wl_r (or_makeSlice (m := a) sI23 tI3 rfl rfl (made_fI _) (by omega) (show a ≤ maxLen by simp only [maxLen]; omega)) rfl rfl (kt1 rfl (fun g19 => ?_))
    refine wl_r (or_buildSlice (e := 23) (size := 1) (is := [0]) (vs := [.slice (some ⟨g19, 0, none⟩) (a) (a)]) (cs := cells fL ([(some ⟨g19, 0, none⟩, a, a)])) rfl rfl rfl (by decide) (fun _ => by kernel_rfl)) rfl rfl (kt1 rfl (fun g20 => ?_))
    refine wl_r (or_append (c2 := 1) sI33 tI23 rfl (by decide) rfl rfl (.tail (.tail .head)) (holds_row (List.Mem.head _)) (by rw [cells_length fL_len]; try simp) (one_cells fL_one _) cells_append (by omega) (by omega)) rfl rfl (kt2p rfl (fun A21 c21 h21 => ?_))
    refine ct_push (k := a) (.cons (.tail (.tail (.tail .head))) (.cons (.tail (.tail .head)) (.cons (.head) (.cons (.head) (.cons (.head) (.cons (.head) (.refl))))))) (List.length_replicate) (Nat.le_refl _) ?_
    refine wl_v (ov_assign rfl) rfl rfl rfl ?_
    refine wl_nil ?_
    refine ce_block ?_
    refine ce_then ?_
    refine cw_region ?_
    refine wl_v (ov_move rfl) rfl rfl rfl ?_
    refine wl_v (ov_add (r := ((i + 1 : Nat) : Int)) rfl rfl rfl (by omega)) rfl rfl rfl ?_
    refine wl_v (ov_assign rfl) rfl rfl rfl ?_
    refine wl_nil ?_
    exact fun ac_ w_ hs_ => hR0 (i + 1) A21 c21 (hs3 ++ ([(some ⟨g19, 0, none⟩, a, a)])) (m ++ [List.replicate a 0]) ⟨by omega, h21, by rw [List.length_append, hk3]; rfl, fun r hr => (by rcases List.mem_append.1 hr with h | h; exact hk4 r h; simp only [List.mem_singleton] at h; subst h; exact ⟨List.length_replicate, fun x hx => by rw [(List.mem_replicate.1 hx).2]; omega⟩)⟩ (by omega) ac_ w_ (hs_.weaken (.cons rfl (.cons rfl (.cons rfl (.cons rfl (.cons rfl (.nil)))))) (.cons (.tail .head) (.cons (.head) (.cons (.tail .head) (.cons (.tail .head) ((.drop .refl)))))))
  ·
    refine wl_nil ?_
    refine ce_then ?_
    refine cw_false rfl ?_
    refine cw_exit ?_
    refine ce_then_exit ?_
    refine ce_then_exit ?_
    refine ce_hit ?_
    refine ce_then ?_
    refine cw_seq ?_
    refine cw_seq ?_
    refine cw_region ?_
    refine wl_v (ov_assign rfl) rfl rfl rfl ?_
    refine wl_nil ?_
    refine ce_then ?_
    refine cw_block ?_
    refine cw_loop3 (fun (i2 : Nat) (m2 : Mat) (q : Nat) => [(0, elp (some ⟨g, 0, none⟩) (0)), (2, .slice none (0) (0)), (3, .int .i64 (((a : Nat) : Int))), (4, .slice A3 (i) (c3)), (6, .int .i64 (((i2 : Nat) : Int)))]) (fun (i2 : Nat) (m2 : Mat) (q : Nat) => (row 23 1 A3 (i) (c3) (cells fL hs3)) :: (nest 3 1 fI hs3 m2) :: (blk g [.slice Ar (nr) (cr), .int .i64 (((q : Nat) : Int))] 59) :: (row 3 1 (some ⟨g9, 0, none⟩) (5) (5) (cells fI ([4, 3, 5, 2, 1]))) :: F) (fun (i2 : Nat) (m2 : Mat) (q : Nat) => i2 ≤ a ∧ m2.length = a ∧ M01 a m2 ∧ p + 1 ≤ q ∧ q ≤ p + 1 + 5 * i2) (fun (i2 : Nat) (m2 : Mat) (q : Nat) => a - i2) 0 m (p + 1) ⟨by omega, by omega, hk4, by omega, by omega⟩ (.cons rfl (.cons rfl (.cons rfl (.cons rfl (.cons (congrArg (fun z => some (Value.int .i64 z)) (show 0 = ((0 : Nat) : Int) by first | omega | rfl | (simp; done))) (.nil)))))) (.cons (.head) (.cons (.head) (.cons (.head) (.cons (.head) (.refl))))) ?_
    intro R1 i2 m2 q hk1 hR1
    obtain ⟨hl1, hl2, hl3, hl4, hl5⟩ := hk1
    refine cw_seq ?_
    refine cw_seq ?_
    refine cw_region ?_
    refine wl_v (ov_move rfl) rfl rfl rfl ?_
    refine wl_v (ov_move rfl) rfl rfl rfl ?_
    refine wl_if (ov_lss rfl rfl) rfl rfl rfl (fun c24 => ?_) (fun c24 => ?_)
    ·
      refine wl_nil ?_
      refine ce_then ?_
      refine cw_true rfl ?_
      refine cw_skip ?_
      refine ce_then ?_
      refine cw_seq ?_
      refine cw_block ?_
      refine cw_seq ?_
      refine cw_region ?_
      refine wl_v (ov_move rfl) rfl rfl rfl ?_
      refine wl_v (ov_add (r := ((i2 + 1 : Nat) : Int)) rfl rfl rfl (by omega)) rfl rfl rfl ?_
      refine wl_v (ov_assign rfl) rfl rfl rfl ?_
      refine wl_nil ?_
      refine ce_then ?_
      refine cw_block ?_
      refine cw_loop3 (fun (j : Nat) (m3 : Mat) (q3 : Nat) => [(0, elp (some ⟨g, 0, none⟩) (0)), (2, .slice none (0) (0)), (3, .int .i64 (((a : Nat) : Int))), (4, .slice A3 (i) (c3)), (6, .int .i64 (((i2 : Nat) : Int))), (7, .int .i64 (((i2 + 1 + j : Nat) : Int)))]) (fun (j : Nat) (m3 : Mat) (q3 : Nat) => (row 23 1 A3 (i) (c3) (cells fL hs3)) :: (nest 3 1 fI hs3 m3) :: (blk g [.slice Ar (nr) (cr), .int .i64 (((q3 : Nat) : Int))] 59) :: (row 3 1 (some ⟨g9, 0, none⟩) (5) (5) (cells fI ([4, 3, 5, 2, 1]))) :: F) (fun (j : Nat) (m3 : Mat) (q3 : Nat) => i2 + 1 + j ≤ a ∧ m3.length = a ∧ M01 a m3 ∧ q ≤ q3 ∧ q3 ≤ q + j) (fun (j : Nat) (m3 : Mat) (q3 : Nat) => a - j) 0 m2 q ⟨by omega, by omega, hl3, by omega, by omega⟩ (.cons rfl (.cons rfl (.cons rfl (.cons rfl (.cons rfl (.cons (congrArg (fun z => some (Value.int .i64 z)) (show ((i2 + 1 : Nat) : Int) = ((i2 + 1 + 0 : Nat) : Int) by first | omega | rfl | (simp; done))) (.nil))))))) (.cons (.head) (.cons (.head) (.cons (.head) (.cons (.head) (.refl))))) ?_
      intro R2 j m3 q3 hk2 hR2
      obtain ⟨hm1, hm2, hm3, hm4, hm5⟩ := hk2
      refine cw_seq ?_
      refine cw_seq ?_
      refine cw_region ?_
      refine wl_v (ov_move rfl) rfl rfl rfl ?_
      refine wl_v (ov_move rfl) rfl rfl rfl ?_
      refine wl_if (ov_lss rfl rfl) rfl rfl rfl (fun c31 => ?_) (fun c31 => ?_)
      ·
        refine wl_nil ?_
        refine ce_then ?_
        refine cw_true rfl ?_
        refine cw_skip ?_
        refine ce_then ?_
        refine cw_seq ?_
        refine cw_block ?_
        refine cw_seq ?_
        refine cw_region ?_
        refine wl_v (ov_move rfl) rfl rfl rfl ?_
        refine wl_r (or_call (fv := []) (vs := [elp (some ⟨g, 0, none⟩) (0), .int .i64 (2)]) (cs := []) en73 rfl rfl (call_o (.cons (.tail (.tail .head)) (.cons (.head) (.cons (.head) (.cons (.head) (.refl))))) (fun w hw => pick_c w _ _ _ 2 g Ar nr cr bs q3 (Holds.keepF hAr ((.drop (.drop (.drop .refl))))) (by first | rfl | assumption | (simp; done) | (simp; omega)) lAr ⟨hy.1, hy.2.1, by omega⟩ (by first | assumption | omega | (simp; omega)) hw))) rfl rfl (kt1p rfl (fun v_35 h_35 => ?_))
        refine wl_if (ov_eql rfl rfl) rfl rfl rfl (fun c36 => ?_) (fun c36 => ?_)
        ·
          refine wl_nil ?_
          refine ce_then ?_
          refine cw_true rfl ?_
          refine cw_region ?_
          refine wl_v (ov_move rfl) rfl rfl rfl ?_
          refine wl_v (ov_move rfl) rfl rfl rfl ?_
          refine ct_fact (nest_facts (List.Mem.tail _ (List.Mem.tail _ (List.Mem.head _)))) (fun hnf39 => ?_)
          have hnl39 := hnf39.1
          refine wl_v (ov_index (k := i2) (c := c3) sI33 tI23 rfl rfl (some_holds (q := i2 * 1) (holds_row (List.Mem.tail _ (List.Mem.head _))) (by rw [cells_length fL_len]; have hlt : i2 < hs3.length := (by first | omega | (simp; omega)); omega)) (show i2 < i from (by first | omega | (simp; omega)))) rfl rfl rfl ?_
          have hri := hm3.len_at (i := i2) (by omega)
          refine wl_v (ov_load tI23 (holds_row (List.Mem.tail _ (List.Mem.head _))) rfl (get_fLn hnf39 (show i2 < m3.length from (by first | omega | (simp; omega))))) rfl rfl rfl ?_
          refine wl_v (ov_move rfl) rfl rfl rfl ?_
          refine wl_v (ov_index (k := i2 + 1 + j) (c := (hs3.getD i2 (none, 0, 0)).2.2) sI23 tI3 rfl rfl (some_holds (q := (i2 + 1 + j) * 1) (holds_nest (List.Mem.tail _ (List.Mem.tail _ (List.Mem.head _))) (show i2 < m3.length from (by first | omega | (simp; omega)))) (by rw [cells_length fI_len]; have hlt : i2 + 1 + j < (m3.getD i2 []).length := (by first | omega | (simp; omega)); omega)) (show i2 + 1 + j < (m3.getD i2 []).length from (by first | omega | (simp; omega)))) rfl rfl rfl ?_
          refine wl_r0 (or_store_nest (i := i2) (q := i2 + 1 + j) (z := 1) (.cons (.tail (.tail .head)) (.cons (.head) (.cons (.head) (.cons (.head) (.refl))))) hnf39 (show i2 < m3.length from (by first | omega | (simp; omega))) (show i2 + 1 + j < (m3.getD i2 []).length from (by first | omega | (simp; omega))) tI3 rfl rfl) rfl rfl (kn0 ?_)
          refine wl_nil ?_
          refine ce_block ?_
          refine ce_then ?_
          refine cw_region ?_
          refine wl_v (ov_move rfl) rfl rfl rfl ?_
          refine wl_v (ov_add (r := (((i2 + 1 + j) + 1 : Nat) : Int)) rfl rfl rfl (by omega)) rfl rfl rfl ?_
          refine wl_v (ov_assign rfl) rfl rfl rfl ?_
          refine wl_nil ?_
          exact fun ac_ w_ hs_ => hR2 (j + 1) (m3.set i2 ((m3.getD i2 []).set (i2 + 1 + j) 1)) (q3 + 1) ⟨by omega, by rw [List.length_set]; exact hm2, hm3.set1 (by omega) , by omega, by omega⟩ (by omega) ac_ w_ (hs_.weaken (.cons rfl (.cons rfl (.cons rfl (.cons rfl (.cons rfl (.cons rfl (.nil))))))) (.cons (.tail (.tail .head)) (.cons (.head) (.cons (.head) (.cons (.head) (.refl))))))
        ·
          refine wl_nil ?_
          refine ce_then ?_
          refine cw_false rfl ?_
          refine cw_region ?_
          refine wl_v (ov_move rfl) rfl rfl rfl ?_
          refine wl_v (ov_move rfl) rfl rfl rfl ?_
          refine ct_fact (nest_facts (List.Mem.tail _ (List.Mem.tail _ (List.Mem.head _)))) (fun hnf45 => ?_)
          have hnl45 := hnf45.1
          refine wl_v (ov_index (k := i2 + 1 + j) (c := c3) sI33 tI23 rfl rfl (some_holds (q := (i2 + 1 + j) * 1) (holds_row (List.Mem.tail _ (List.Mem.head _))) (by rw [cells_length fL_len]; have hlt : i2 + 1 + j < hs3.length := (by first | omega | (simp; omega)); omega)) (show i2 + 1 + j < i from (by first | omega | (simp; omega)))) rfl rfl rfl ?_
          have hri := hm3.len_at (i := i2 + 1 + j) (by omega)
          refine wl_v (ov_load tI23 (holds_row (List.Mem.tail _ (List.Mem.head _))) rfl (get_fLn hnf45 (show i2 + 1 + j < m3.length from (by first | omega | (simp; omega))))) rfl rfl rfl ?_
          refine wl_v (ov_move rfl) rfl rfl rfl ?_
          refine wl_v (ov_index (k := i2) (c := (hs3.getD (i2 + 1 + j) (none, 0, 0)).2.2) sI23 tI3 rfl rfl (some_holds (q := i2 * 1) (holds_nest (List.Mem.tail _ (List.Mem.tail _ (List.Mem.head _))) (show i2 + 1 + j < m3.length from (by first | omega | (simp; omega)))) (by rw [cells_length fI_len]; have hlt : i2 < (m3.getD (i2 + 1 + j) []).length := (by first | omega | (simp; omega)); omega)) (show i2 < (m3.getD (i2 + 1 + j) []).length from (by first | omega | (simp; omega)))) rfl rfl rfl ?_
          refine wl_r0 (or_store_nest (i := i2 + 1 + j) (q := i2) (z := 1) (.cons (.tail (.tail .head)) (.cons (.head) (.cons (.head) (.cons (.head) (.refl))))) hnf45 (show i2 + 1 + j < m3.length from (by first | omega | (simp; omega))) (show i2 < (m3.getD (i2 + 1 + j) []).length from (by first | omega | (simp; omega))) tI3 rfl rfl) rfl rfl (kn0 ?_)
          refine wl_nil ?_
          refine ce_block ?_
          refine ce_then ?_
          refine cw_region ?_
          refine wl_v (ov_move rfl) rfl rfl rfl ?_
          refine wl_v (ov_add (r := (((i2 + 1 + j) + 1 : Nat) : Int)) rfl rfl rfl (by omega)) rfl rfl rfl ?_
          refine wl_v (ov_assign rfl) rfl rfl rfl ?_
          refine wl_nil ?_
          exact fun ac_ w_ hs_ => hR2 (j + 1) (m3.set (i2 + 1 + j) ((m3.getD (i2 + 1 + j) []).set i2 1)) (q3 + 1) ⟨by omega, by rw [List.length_set]; exact hm2, hm3.set1 (by omega) , by omega, by omega⟩ (by omega) ac_ w_ (hs_.weaken (.cons rfl (.cons rfl (.cons rfl (.cons rfl (.cons rfl (.cons rfl (.nil))))))) (.cons (.tail (.tail .head)) (.cons (.head) (.cons (.head) (.cons (.head) (.refl))))))
      ·
        refine wl_nil ?_
        refine ce_then ?_
        refine cw_false rfl ?_
        refine cw_exit ?_
        refine ce_then_exit ?_
        refine ce_then_exit ?_
        refine ce_hit ?_
        refine ce_block ?_
        refine ce_then ?_
        refine cw_region ?_
        refine wl_v (ov_move rfl) rfl rfl rfl ?_
        refine wl_v (ov_add (r := ((i2 + 1 : Nat) : Int)) rfl rfl rfl (by omega)) rfl rfl rfl ?_
        refine wl_v (ov_assign rfl) rfl rfl rfl ?_
        refine wl_nil ?_
        exact fun ac_ w_ hs_ => hR1 (i2 + 1) m3 q3 ⟨by omega, by omega, hm3, by omega, by omega⟩ (by omega) ac_ w_ (hs_.weaken (.cons rfl (.cons rfl (.cons rfl (.cons rfl (.cons rfl (.nil)))))) (.cons (.head) (.cons (.head) (.cons (.head) (.cons (.head) (.refl))))))
    ·
      refine wl_nil ?_
      refine ce_then ?_
      refine cw_false rfl ?_
      refine cw_exit ?_
      refine ce_then_exit ?_
      refine ce_then_exit ?_
      refine ce_hit ?_
      refine ce_then ?_
      refine cw_seq ?_
      refine cw_region ?_
      refine wl_v (ov_move rfl) rfl rfl rfl ?_
      refine wl_v (ov_assign rfl) rfl rfl rfl ?_
      refine wl_nil ?_
      refine ce_then ?_
      refine cw_ret ?_
      refine ce_results (v := .slice A3 (i) (c3)) (res1 rfl (rv_t rfl)) (fun w' hw => ?_)
      exact ⟨A3, c3, hs3, m2, q, ⟨⟨by omega, by omega, by rw [hl2]; exact hl3⟩, by omega, by omega⟩, (by rw [hl2, show i = a from by omega]), ((.consE (show row 23 1 A3 (i) (c3) (cells fL hs3) = row 23 1 A3 (m2.length) (c3) (cells fL hs3) by rw [hl2, show i = a from by omega]) (.head) (.cons (.head) (.cons (.head) ((.drop .refl)))) : Keep _ _).ss hw)⟩
set_option maxRecDepth 100000 in
theorem someScores_c (w w0 : World) (Bd : Nat) (F : List Ent) (g : Nat) (Ar : Option Addr) (nr : Nat) (cr : Nat) (bs : List Nat) (p : Nat) (hAr : Holds (SS w0 Bd F) Ar (cells fY bs)) (eAr : bs.length = nr) (lAr : nr ≤ cr) (hy : nr ≤ 2000 ∧ (∀ x ∈ bs, x < 256) ∧ p ≤ 95000) (hss : SS w0 Bd ((blk g [.slice Ar (nr) (cr), .int .i64 (((p : Nat) : Int))] 59) :: F) w) : Calls Try.prog 46 #[elp (some ⟨g, 0, none⟩) (0)] w (Ret fun rv w' => ∃ A2 c2 ys q, ((ys.length ≤ c2 ∧ ys.length ≤ 6 ∧ Sm ys) ∧ p ≤ q ∧ q ≤ p + 60) ∧ rv = .slice A2 (ys.length) (c2) ∧ SS w0 Bd ((row 3 1 A2 (ys.length) (c2) (cells fI ys)) :: (blk g [.slice Ar (nr) (cr), .int .i64 (((q : Nat) : Int))] 59) :: F) w') := by
  refine fn_enter (args := [elp (some ⟨g, 0, none⟩) (0)]) Try.func46 rfl Try.ntmps46 rfl hss ?_
  refine cw_seq ?_
  refine cw_region ?_
  refine wl_v (ov_assign rfl) rfl rfl rfl ?_
  refine wl_nil ?_
  refine ce_then ?_
  refine cw_seq ?_
  refine cw_region ?_
  refine wl_v (ov_move rfl) rfl rfl rfl ?_
  refine wl_r (or_call (fv := []) (vs := [elp (some ⟨g, 0, none⟩) (0)]) (cs := []) en81 rfl rfl (call_o (.cons (.head) (.refl)) (fun w hw => aTour_c w _ _ _ g Ar nr cr bs p (Holds.keepF hAr (.refl)) (by first | rfl | assumption | (simp; done) | (simp; omega)) lAr ⟨hy.1, hy.2.1, by omega⟩ hw))) rfl rfl (kt5p rfl (fun A2_6 c2_6 hs2_6 m_6 q_6 h_6 => ?_))
  have hm6 := h_6.1.2.2
  have hrl6 := rsum_len m_6
  have hs6 := hm6.sm (by omega)
  refine ct_fact (nest_facts (List.Mem.tail _ (List.Mem.head _))) (fun hnfns_6_1 => ?_)
  have hnfns_6_1l := hnfns_6_1.1
  refine wl_r (or_call (fv := []) (vs := [.slice A2_6 (m_6.length) (c2_6)]) (cs := []) en67 rfl rfl (call_x2 (fun w hw => rowSums_c w A2_6 m_6.length c2_6 hs2_6 m_6 ((holds_row (List.Mem.head _)) w hw) rfl h_6.1.1 hnfns_6_1 ((mx_nest (List.Mem.tail _ (List.Mem.head _))) w hw) ⟨by omega, hm6.small (by omega)⟩))) rfl rfl (kt2p rfl (fun A2_7 c2_7 h_7 => ?_))
  refine wl_v (ov_assign rfl) rfl rfl rfl ?_
  refine wl_nil ?_
  refine ce_then ?_
  refine cw_cut2 (fun (xs : List Int) (q : Nat) => [(0, elp (some ⟨g, 0, none⟩) (0)), (2, .slice none (0) (0)), (3, .slice A2_7 (m_6.length) (c2_7))]) (fun (xs : List Int) (q : Nat) => (row 3 1 A2_7 (m_6.length) (c2_7) (cells fI xs)) :: (row 23 1 A2_6 (m_6.length) (c2_6) (cells fL hs2_6)) :: (nest 3 1 fI hs2_6 m_6) :: (blk g [.slice Ar (nr) (cr), .int .i64 (((q : Nat) : Int))] 59) :: F) (fun (xs : List Int) (q : Nat) => xs.length = m_6.length ∧ Sm xs ∧ p ≤ q ∧ q ≤ p + 40) (fun K7 hK7 => ?_) ?_
  ·
    refine cw_seq ?_
    refine cw_region ?_
    refine wl_v (ov_move rfl) rfl rfl rfl ?_
    refine wl_v (ov_len (sliceI_spec sI23) rfl) rfl rfl rfl ?_
    refine wl_if (ov_gtr rfl rfl) rfl rfl rfl (fun c10 => ?_) (fun c10 => ?_)
    ·
      refine wl_v (ov_move rfl) rfl rfl rfl ?_
      refine wl_go rfl rfl ?_
      refine wl_v (ov_move rfl) rfl rfl rfl ?_
      refine wl_go rfl rfl ?_
      refine wl_r (or_call (fv := []) (vs := [elp (some ⟨g, 0, none⟩) (0), .int .i64 (3)]) (cs := []) en73 rfl rfl (call_o (.cons (.tail (.tail (.tail .head))) (.cons (.head) (.cons (.head) (.cons (.head) (.refl))))) (fun w hw => pick_c w _ _ _ 3 g Ar nr cr bs q_6 (Holds.keepF hAr ((.drop (.drop (.drop .refl))))) (by first | rfl | assumption | (simp; done) | (simp; omega)) lAr ⟨hy.1, hy.2.1, by omega⟩ (by first | assumption | omega | (simp; omega)) hw))) rfl rfl (kt1p rfl (fun v_13 h_13 => ?_))
      refine wl_go rfl rfl ?_
      refine wl_if (ov_eql rfl rfl) rfl rfl rfl (fun c14 => ?_) (fun c14 => ?_)
      ·
        refine wl_v (ov_pick_t rfl rfl) rfl rfl rfl ?_
        refine wl_nil ?_
        refine ce_then ?_
        refine cw_true rfl ?_
        refine cw_seq ?_
        refine cw_region ?_
        refine wl_v (ov_move rfl) rfl rfl rfl ?_
        refine wl_v (ov_move rfl) rfl rfl rfl ?_
        refine wl_v (ov_len (sliceI_spec sI23) rfl) rfl rfl rfl ?_
        refine wl_r (or_call (fv := []) (vs := [elp (some ⟨g, 0, none⟩) (0), .int .i64 ((((rsum m_6).length : Nat) : Int))]) (cs := []) en73 rfl rfl (call_o (.cons (.head) (.cons (.head) (.cons (.head) (.cons (.head) (.refl))))) (fun w hw => pick_c w _ _ _ (((rsum m_6).length : Nat) : Int) g Ar nr cr bs (q_6 + 1) (Holds.keepF hAr ((.drop (.drop (.drop .refl))))) (by first | rfl | assumption | (simp; done) | (simp; omega)) lAr ⟨hy.1, hy.2.1, by omega⟩ (by first | assumption | omega | (simp; omega)) hw))) rfl rfl (kt1p rfl (fun v_19 h_19 => ?_))
        refine wl_v (ov_assign rfl) rfl rfl rfl ?_
        refine wl_nil ?_
        refine ce_then ?_
        refine cw_seq ?_
        refine cw_draw mixO [16] (.cons (.tail .head) (.cons (.tail .head) (.cons (.tail .head) ((.drop .refl))))) rfl ?_
        refine wg_takep (i := 0) rfl (ov_move rfl) rfl rfl rfl (by kernel_rfl) (by kernel_rfl) (by kernel_rfl) rfl ?_
        refine wg_takep (i := 1) rfl (ov_move rfl) rfl rfl rfl (by kernel_rfl) (by kernel_rfl) (by kernel_rfl) rfl ?_
        refine wg_takep (i := 2) rfl (ov_move rfl) rfl rfl rfl (by kernel_rfl) (by kernel_rfl) (by kernel_rfl) rfl ?_
        refine wg_takep (i := 3) rfl (ov_move rfl) rfl rfl rfl (by kernel_rfl) (by kernel_rfl) (by kernel_rfl) rfl ?_
        refine wg_take (i := 4) rfl (ov_indexg sI23 tI3 rfl rfl (some_holds (q := v_19.toNat * 1) (holds_row (List.Mem.head _)) (by rw [cells_length fI_len]; have hlt : v_19.toNat < (rsum m_6).length := (by first | omega | (rw [List.length_set]; omega)); omega)) (by first | omega | (rw [List.length_set]; omega)) (show v_19.toNat < (rsum m_6).length from (by first | omega | (rw [List.length_set]; omega)))) rfl rfl rfl (by kernel_rfl) (by kernel_rfl) (by kernel_rfl) (by kernel_rfl) ?_
        refine wg_take (i := 5) rfl (ov_load tI3 (holds_row (List.Mem.head _)) rfl (get_fI (show v_19.toNat < (rsum m_6).length from (by first | omega | (rw [List.length_set]; omega))))) rfl rfl rfl (by kernel_rfl) (by kernel_rfl) (by kernel_rfl) (by kernel_rfl) ?_
        have hv25 := hs6.at_ (k := v_19.toNat) (by omega)
        refine wg_takep (i := 6) rfl (ov_move rfl) rfl rfl rfl (by kernel_rfl) (by kernel_rfl) (by kernel_rfl) rfl ?_
        refine wg_takep (i := 11) rfl (ov_move rfl) rfl rfl rfl (by kernel_rfl) (by kernel_rfl) (by kernel_rfl) rfl ?_
        refine wg_takep (i := 12) rfl (ov_len (sliceI_spec sI23) rfl) rfl rfl rfl (by kernel_rfl) (by kernel_rfl) (by kernel_rfl) rfl ?_
        refine wg_takep (i := 13) rfl (ov_sub (r := (((rsum m_6).length : Nat) : Int) - 1) rfl rfl rfl (by omega)) rfl rfl rfl (by kernel_rfl) (by kernel_rfl) (by kernel_rfl) rfl ?_
        refine wg_one (i := 7) (by kernel_rfl) ?_
        refine go_r rfl rfl rfl rfl (or_buildSlice (e := 3) (size := 1) (is := [0, 1]) (vs := [.int .i64 (1), .int .i64 (-1)]) (cs := cells fI ([1, -1])) rfl rfl rfl (by decide) (fun _ => by kernel_rfl)) (kt1 rfl (fun g27 => ?_))
        refine gk (.cons (.tail (.tail .head)) (.cons (.tail (.tail .head)) (.cons (.tail (.tail .head)) ((.drop (.drop .refl)))))) ?_
        refine wg_one (i := 8) (by kernel_rfl) ?_
        refine go_r rfl rfl rfl rfl (or_call (fv := []) (vs := [elp (some ⟨g, 0, none⟩) (0), .slice (some ⟨g27, 0, none⟩) (2) (2)]) (cs := []) en74 rfl rfl (call_o (.cons (.tail .head) (.cons (.head) (.cons (.head) (.cons (.head) (.cons (.head) (.refl)))))) (fun w hw => one_c w _ _ _ (some ⟨g27, 0, none⟩) 2 2 ([1, -1]) g Ar nr cr bs ((q_6 + 1) + 1) (holds_row (List.Mem.head _)) (by first | rfl | assumption | (simp; done) | (simp; omega)) (Nat.le_refl _) (Holds.keepF hAr ((.drop (.drop (.drop (.drop .refl)))))) (by first | rfl | assumption | (simp; done) | (simp; omega)) lAr ⟨hy.1, hy.2.1, by omega⟩ (by first | assumption | omega | (simp; omega)) hw))) (kt1p rfl (fun v_28 h_28 => ?_))
        refine gk (.cons (.tail (.tail .head)) (.cons (.tail (.tail .head)) (.cons (.tail (.tail .head)) ((.drop (.drop .refl)))))) ?_
        have h28 : -1 ≤ v_28 ∧ v_28 ≤ 1 := (by simp at h_28; omega)
        refine wg_takep (i := 9) rfl (ov_add (r := ((rsum m_6).getD v_19.toNat 0) + v_28) rfl rfl rfl (by omega)) rfl rfl rfl (by kernel_rfl) (by kernel_rfl) (by kernel_rfl) rfl ?_
        refine wg_takep (i := 10) rfl (ov_max (r := max (((rsum m_6).getD v_19.toNat 0) + v_28) 0) rfl rfl (by first | omega | (split <;> omega))) rfl rfl rfl (by kernel_rfl) (by kernel_rfl) (by kernel_rfl) rfl ?_
        refine wg_takep (i := 14) rfl (ov_min (r := min (max (((rsum m_6).getD v_19.toNat 0) + v_28) 0) ((((rsum m_6).length : Nat) : Int) - 1)) rfl rfl (by first | omega | (split <;> omega))) rfl rfl rfl (by kernel_rfl) (by kernel_rfl) (by kernel_rfl) rfl ?_
        refine wg_take (i := 15) rfl (ov_indexg sI23 tI3 rfl rfl (some_holds (q := v_19.toNat * 1) (holds_row (List.Mem.head _)) (by rw [cells_length fI_len]; have hlt : v_19.toNat < (rsum m_6).length := (by first | omega | (rw [List.length_set]; omega)); omega)) (by first | omega | (rw [List.length_set]; omega)) (show v_19.toNat < (rsum m_6).length from (by first | omega | (rw [List.length_set]; omega)))) rfl rfl rfl (by kernel_rfl) (by kernel_rfl) (by kernel_rfl) (by kernel_rfl) ?_
        refine wg_one (i := 16) (by kernel_rfl) ?_
        refine go_late0 rfl rfl rfl rfl (or_store_row (vs := [.int .i64 (min (max (((rsum m_6).getD v_19.toNat 0) + v_28) 0) ((((rsum m_6).length : Nat) : Int) - 1))]) (cs' := cells fI ((rsum m_6).set v_19.toNat (min (max (((rsum m_6).getD v_19.toNat 0) + v_28) 0) ((((rsum m_6).length : Nat) : Int) - 1)))) (.tail (.tail .head)) tI3 rfl rfl rfl rfl (by rw [cells_length fI_len]; have hlt := (show v_19.toNat < (rsum m_6).length from (by first | omega | (rw [List.length_set]; omega))); simp only [List.length_cons, List.length_nil]; omega) (by simp) (cells_splice fI_len (show v_19.toNat < (rsum m_6).length from (by first | omega | (rw [List.length_set]; omega))) (min (max (((rsum m_6).getD v_19.toNat 0) + v_28) 0) ((((rsum m_6).length : Nat) : Int) - 1)))) (kn0 ?_)
        refine wa_done (by kernel_rfl) ?_
        refine ce_then ?_
        refine cw_seq ?_
        refine cw_region ?_
        refine wl_v (ov_move rfl) rfl rfl rfl ?_
        refine wl_v (ov_move rfl) rfl rfl rfl ?_
        refine wl_v (ov_len (sliceI_spec sI23) rfl) rfl rfl rfl ?_
        refine wl_r (or_call (fv := []) (vs := [elp (some ⟨g, 0, none⟩) (0), .int .i64 ((((rsum m_6).length : Nat) : Int))]) (cs := []) en73 rfl rfl (call_o (.cons (.tail .head) (.cons (.head) (.cons (.head) (.cons (.head) (.cons (.head) (.refl)))))) (fun w hw => pick_c w _ _ _ (((rsum m_6).length : Nat) : Int) g Ar nr cr bs (((q_6 + 1) + 1) + 1) (Holds.keepF hAr ((.drop (.drop (.drop (.drop .refl)))))) (by first | rfl | assumption | (simp; done) | (simp; omega)) lAr ⟨hy.1, hy.2.1, by omega⟩ (by first | assumption | omega | (simp; omega)) hw))) rfl rfl (kt1p rfl (fun v_39 h_39 => ?_))
        refine wl_v (ov_assign rfl) rfl rfl rfl ?_
        refine wl_nil ?_
        refine ce_then ?_
        refine cw_draw mixO [16] (.cons (.tail .head) (.cons (.tail .head) (.cons (.tail .head) (.cons (.tail .head) ((.drop .refl)))))) rfl ?_
        refine wg_takep (i := 0) rfl (ov_move rfl) rfl rfl rfl (by kernel_rfl) (by kernel_rfl) (by kernel_rfl) rfl ?_
        refine wg_takep (i := 1) rfl (ov_move rfl) rfl rfl rfl (by kernel_rfl) (by kernel_rfl) (by kernel_rfl) rfl ?_
        refine wg_takep (i := 2) rfl (ov_move rfl) rfl rfl rfl (by kernel_rfl) (by kernel_rfl) (by kernel_rfl) rfl ?_
        refine wg_takep (i := 3) rfl (ov_move rfl) rfl rfl rfl (by kernel_rfl) (by kernel_rfl) (by kernel_rfl) rfl ?_
        refine wg_take (i := 4) rfl (ov_indexg sI23 tI3 rfl rfl (some_holds (q := v_39.toNat * 1) (holds_row (List.Mem.head _)) (by rw [cells_length fI_len]; have hlt : v_39.toNat < ((rsum m_6).set v_19.toNat (min (max (((rsum m_6).getD v_19.toNat 0) + v_28) 0) ((((rsum m_6).length : Nat) : Int) - 1))).length := (by first | omega | (rw [List.length_set]; omega)); omega)) (by first | omega | (rw [List.length_set]; omega)) (show v_39.toNat < (rsum m_6).length from (by first | omega | (rw [List.length_set]; omega)))) rfl rfl rfl (by kernel_rfl) (by kernel_rfl) (by kernel_rfl) (by kernel_rfl) ?_
        refine wg_take (i := 5) rfl (ov_load tI3 (holds_row (List.Mem.head _)) rfl (get_fI (show v_39.toNat < ((rsum m_6).set v_19.toNat (min (max (((rsum m_6).getD v_19.toNat 0) + v_28) 0) ((((rsum m_6).length : Nat) : Int) - 1))).length from (by first | omega | (rw [List.length_set]; omega))))) rfl rfl rfl (by kernel_rfl) (by kernel_rfl) (by kernel_rfl) (by kernel_rfl) ?_
        have hs45 : Sm ((rsum m_6).set v_19.toNat (min (max (((rsum m_6).getD v_19.toNat 0) + v_28) 0) ((((rsum m_6).length : Nat) : Int) - 1))) := hs6.set (by omega)
        have hl45 : ((rsum m_6).set v_19.toNat (min (max (((rsum m_6).getD v_19.toNat 0) + v_28) 0) ((((rsum m_6).length : Nat) : Int) - 1))).length = m_6.length := (by rw [List.length_set]; omega)
        have hv45 := hs45.at_ (k := v_39.toNat) (by omega)
        refine wg_takep (i := 6) rfl (ov_move rfl) rfl rfl rfl (by kernel_rfl) (by kernel_rfl) (by kernel_rfl) rfl ?_
        refine wg_takep (i := 11) rfl (ov_move rfl) rfl rfl rfl (by kernel_rfl) (by kernel_rfl) (by kernel_rfl) rfl ?_
        refine wg_takep (i := 12) rfl (ov_len (sliceI_spec sI23) rfl) rfl rfl rfl (by kernel_rfl) (by kernel_rfl) (by kernel_rfl) rfl ?_
        refine wg_takep (i := 13) rfl (ov_sub (r := (((rsum m_6).length : Nat) : Int) - 1) rfl rfl rfl (by omega)) rfl rfl rfl (by kernel_rfl) (by kernel_rfl) (by kernel_rfl) rfl ?_
        refine wg_one (i := 7) (by kernel_rfl) ?_
        refine go_r rfl rfl rfl rfl (or_buildSlice (e := 3) (size := 1) (is := [0, 1]) (vs := [.int .i64 (1), .int .i64 (-1)]) (cs := cells fI ([1, -1])) rfl rfl rfl (by decide) (fun _ => by kernel_rfl)) (kt1 rfl (fun g47 => ?_))
        refine gk (.cons (.tail (.tail .head)) (.cons (.tail (.tail .head)) (.cons (.tail (.tail .head)) (.cons (.tail (.tail .head)) ((.drop (.drop .refl))))))) ?_
        refine wg_one (i := 8) (by kernel_rfl) ?_
        refine go_r rfl rfl rfl rfl (or_call (fv := []) (vs := [elp (some ⟨g, 0, none⟩) (0), .slice (some ⟨g47, 0, none⟩) (2) (2)]) (cs := []) en74 rfl rfl (call_o (.cons (.tail .head) (.cons (.head) (.cons (.head) (.cons (.head) (.cons (.head) (.cons (.head) (.refl))))))) (fun w hw => one_c w _ _ _ (some ⟨g47, 0, none⟩) 2 2 ([1, -1]) g Ar nr cr bs ((((q_6 + 1) + 1) + 1) + 1) (holds_row (List.Mem.head _)) (by first | rfl | assumption | (simp; done) | (simp; omega)) (Nat.le_refl _) (Holds.keepF hAr ((.drop (.drop (.drop (.drop (.drop .refl))))))) (by first | rfl | assumption | (simp; done) | (simp; omega)) lAr ⟨hy.1, hy.2.1, by omega⟩ (by first | assumption | omega | (simp; omega)) hw))) (kt1p rfl (fun v_48 h_48 => ?_))
        refine gk (.cons (.tail (.tail .head)) (.cons (.tail (.tail .head)) (.cons (.tail (.tail .head)) (.cons (.tail (.tail .head)) ((.drop (.drop .refl))))))) ?_
        have h48 : -1 ≤ v_48 ∧ v_48 ≤ 1 := (by simp at h_48; omega)
        refine wg_takep (i := 9) rfl (ov_add (r := (((rsum m_6).set v_19.toNat (min (max (((rsum m_6).getD v_19.toNat 0) + v_28) 0) ((((rsum m_6).length : Nat) : Int) - 1))).getD v_39.toNat 0) + v_48) rfl rfl rfl (by omega)) rfl rfl rfl (by kernel_rfl) (by kernel_rfl) (by kernel_rfl) rfl ?_
        refine wg_takep (i := 10) rfl (ov_max (r := max ((((rsum m_6).set v_19.toNat (min (max (((rsum m_6).getD v_19.toNat 0) + v_28) 0) ((((rsum m_6).length : Nat) : Int) - 1))).getD v_39.toNat 0) + v_48) 0) rfl rfl (by first | omega | (split <;> omega))) rfl rfl rfl (by kernel_rfl) (by kernel_rfl) (by kernel_rfl) rfl ?_
        refine wg_takep (i := 14) rfl (ov_min (r := min (max ((((rsum m_6).set v_19.toNat (min (max (((rsum m_6).getD v_19.toNat 0) + v_28) 0) ((((rsum m_6).length : Nat) : Int) - 1))).getD v_39.toNat 0) + v_48) 0) ((((rsum m_6).length : Nat) : Int) - 1)) rfl rfl (by first | omega | (split <;> omega))) rfl rfl rfl (by kernel_rfl) (by kernel_rfl) (by kernel_rfl) rfl ?_
        refine wg_take (i := 15) rfl (ov_indexg sI23 tI3 rfl rfl (some_holds (q := v_39.toNat * 1) (holds_row (List.Mem.head _)) (by rw [cells_length fI_len]; have hlt : v_39.toNat < ((rsum m_6).set v_19.toNat (min (max (((rsum m_6).getD v_19.toNat 0) + v_28) 0) ((((rsum m_6).length : Nat) : Int) - 1))).length := (by first | omega | (rw [List.length_set]; omega)); omega)) (by first | omega | (rw [List.length_set]; omega)) (show v_39.toNat < (rsum m_6).length from (by first | omega | (rw [List.length_set]; omega)))) rfl rfl rfl (by kernel_rfl) (by kernel_rfl) (by kernel_rfl) (by kernel_rfl) ?_
        refine wg_one (i := 16) (by kernel_rfl) ?_
        refine go_late0 rfl rfl rfl rfl (or_store_row (vs := [.int .i64 (min (max ((((rsum m_6).set v_19.toNat (min (max (((rsum m_6).getD v_19.toNat 0) + v_28) 0) ((((rsum m_6).length : Nat) : Int) - 1))).getD v_39.toNat 0) + v_48) 0) ((((rsum m_6).length : Nat) : Int) - 1))]) (cs' := cells fI (((rsum m_6).set v_19.toNat (min (max (((rsum m_6).getD v_19.toNat 0) + v_28) 0) ((((rsum m_6).length : Nat) : Int) - 1))).set v_39.toNat (min (max ((((rsum m_6).set v_19.toNat (min (max (((rsum m_6).getD v_19.toNat 0) + v_28) 0) ((((rsum m_6).length : Nat) : Int) - 1))).getD v_39.toNat 0) + v_48) 0) ((((rsum m_6).length : Nat) : Int) - 1)))) (.tail (.tail .head)) tI3 rfl rfl rfl rfl (by rw [cells_length fI_len]; have hlt := (show v_39.toNat < ((rsum m_6).set v_19.toNat (min (max (((rsum m_6).getD v_19.toNat 0) + v_28) 0) ((((rsum m_6).length : Nat) : Int) - 1))).length from (by first | omega | (rw [List.length_set]; omega))); simp only [List.length_cons, List.length_nil]; omega) (by simp) (cells_splice fI_len (show v_39.toNat < ((rsum m_6).set v_19.toNat (min (max (((rsum m_6).getD v_19.toNat 0) + v_28) 0) ((((rsum m_6).length : Nat) : Int) - 1))).length from (by first | omega | (rw [List.length_set]; omega))) (min (max ((((rsum m_6).set v_19.toNat (min (max (((rsum m_6).getD v_19.toNat 0) + v_28) 0) ((((rsum m_6).length : Nat) : Int) - 1))).getD v_39.toNat 0) + v_48) 0) ((((rsum m_6).length : Nat) : Int) - 1)))) (kn0 ?_)
        refine wa_done (by kernel_rfl) ?_
        exact fun ac_ w_ hs_ => hK7 (((rsum m_6).set v_19.toNat (min (max (((rsum m_6).getD v_19.toNat 0) + v_28) 0) ((((rsum m_6).length : Nat) : Int) - 1))).set v_39.toNat (min (max ((((rsum m_6).set v_19.toNat (min (max (((rsum m_6).getD v_19.toNat 0) + v_28) 0) ((((rsum m_6).length : Nat) : Int) - 1))).getD v_39.toNat 0) + v_48) 0) ((((rsum m_6).length : Nat) : Int) - 1))) (q_6 + 1 + 1 + 1 + 1 + 1) ⟨by rw [List.length_set, List.length_set]; omega, hs45.set (by omega), by omega, by omega⟩ ac_ w_ (hs_.weaken (.cons rfl (.cons rfl (.cons (congrArg (fun z => some (Value.slice A2_7 z c2_7)) (show ((rsum m_6).length) = m_6.length from (by omega))) (.nil)))) (.consE (show row 3 1 A2_7 ((rsum m_6).length) (c2_7) (cells fI (((rsum m_6).set v_19.toNat (min (max (((rsum m_6).getD v_19.toNat 0) + v_28) 0) ((((rsum m_6).length : Nat) : Int) - 1))).set v_39.toNat (min (max ((((rsum m_6).set v_19.toNat (min (max (((rsum m_6).getD v_19.toNat 0) + v_28) 0) ((((rsum m_6).length : Nat) : Int) - 1))).getD v_39.toNat 0) + v_48) 0) ((((rsum m_6).length : Nat) : Int) - 1)))) = row 3 1 A2_7 (m_6.length) (c2_7) (cells fI (((rsum m_6).set v_19.toNat (min (max (((rsum m_6).getD v_19.toNat 0) + v_28) 0) ((((rsum m_6).length : Nat) : Int) - 1))).set v_39.toNat (min (max ((((rsum m_6).set v_19.toNat (min (max (((rsum m_6).getD v_19.toNat 0) + v_28) 0) ((((rsum m_6).length : Nat) : Int) - 1))).getD v_39.toNat 0) + v_48) 0) ((((rsum m_6).length : Nat) : Int) - 1)))) by rw [hrl6]) (.head) (.cons (.tail (.tail (.tail .head))) (.cons (.tail (.tail (.tail .head))) (.cons (.head) ((.drop (.drop .refl))))))))
      ·
        refine wl_v (ov_pick_t rfl rfl) rfl rfl rfl ?_
        refine wl_nil ?_
        refine ce_then ?_
        refine cw_false rfl ?_
        refine cw_skip ?_
        exact fun ac_ w_ hs_ => hK7 (rsum m_6) (q_6 + 1) ⟨by omega, hs6, by omega, by omega⟩ ac_ w_ (hs_.weaken (.cons rfl (.cons rfl (.cons (congrArg (fun z => some (Value.slice A2_7 z c2_7)) (show ((rsum m_6).length) = m_6.length from (by omega))) (.nil)))) (.consE (show row 3 1 A2_7 ((rsum m_6).length) (c2_7) (cells fI (rsum m_6)) = row 3 1 A2_7 (m_6.length) (c2_7) (cells fI (rsum m_6)) by rw [hrl6]) (.tail .head) (.cons (.tail .head) (.cons (.tail .head) (.cons (.head) (.refl))))))
    ·
      refine wl_v (ov_move rfl) rfl rfl rfl ?_
      refine wl_not rfl rfl rfl rfl rfl rfl ?_
      refine wl_not rfl rfl rfl rfl rfl rfl ?_
      refine wl_not rfl rfl rfl rfl rfl rfl ?_
      refine wl_v (ov_pick_f rfl rfl) rfl rfl rfl ?_
      refine wl_nil ?_
      refine ce_then ?_
      refine cw_false rfl ?_
      refine cw_skip ?_
      exact fun ac_ w_ hs_ => hK7 (rsum m_6) q_6 ⟨by omega, hs6, by omega, by omega⟩ ac_ w_ (hs_.weaken (.cons rfl (.cons rfl (.cons (congrArg (fun z => some (Value.slice A2_7 z c2_7)) (show ((rsum m_6).length) = m_6.length from (by omega))) (.nil)))) (.consE (show row 3 1 A2_7 ((rsum m_6).length) (c2_7) (cells fI (rsum m_6)) = row 3 1 A2_7 (m_6.length) (c2_7) (cells fI (rsum m_6)) by rw [hrl6]) (.head) (.cons (.head) (.cons (.head) (.cons (.head) (.refl))))))
  ·
    intro xs q hz7
    obtain ⟨hx1, hxs, hq1, hq2⟩ := hz7
    have hcx : m_6.length ≤ c2_7 := by omega
    refine cw_seq ?_
    refine cw_seq ?_
    refine cw_region ?_
    refine wl_v (ov_move rfl) rfl rfl rfl ?_
    refine wl_r (or_call (fv := []) (vs := [elp (some ⟨g, 0, none⟩) (0), .int .i64 (24)]) (cs := []) en73 rfl rfl (call_o (.cons (.tail (.tail (.tail .head))) (.cons (.head) (.cons (.head) (.cons (.head) (.refl))))) (fun w hw => pick_c w _ _ _ 24 g Ar nr cr bs q (Holds.keepF hAr ((.drop (.drop (.drop .refl))))) (by first | rfl | assumption | (simp; done) | (simp; omega)) lAr ⟨hy.1, hy.2.1, by omega⟩ (by first | assumption | omega | (simp; omega)) hw))) rfl rfl (kt1p rfl (fun v_57 h_57 => ?_))
    refine wl_nil ?_
    refine ce_then ?_
    refine cw_block ?_
    refine cw_seq ?_
    refine cw_region ?_
    refine wl_if (ov_eql rfl rfl) rfl rfl rfl (fun c59 => ?_) (fun c59 => ?_)
    ·
      refine wl_v (ov_assign rfl) rfl rfl rfl ?_
      refine wl_nil ?_
      refine ce_then ?_
      refine cw_true rfl ?_
      refine cw_seq ?_
      refine cw_region ?_
      refine wl_v (ov_move rfl) rfl rfl rfl ?_
      refine wl_r (or_buildSlice (e := 3) (size := 1) (is := [0]) (vs := [.int .i64 (-1)]) (cs := cells fI ([-1])) rfl rfl rfl (by decide) (fun _ => by kernel_rfl)) rfl rfl (kt1 rfl (fun g61 => ?_))
      refine wl_r (or_append (c2 := 1) sI23 tI3 rfl (by decide) rfl rfl (.tail (.tail .head)) (holds_row (List.Mem.head _)) ((by rw [cells_length fI_len]; rfl)) (one_cells fI_one _) cells_append (by omega) (by omega)) rfl rfl (kt2p rfl (fun A62 c62 h62 => ?_))
      refine wl_v (ov_assign rfl) rfl rfl rfl ?_
      refine wl_nil ?_
      refine ce_then ?_
      refine cw_ret ?_
      refine ce_block_ret ?_
      refine ce_then_ret ?_
      refine ce_results (v := .slice A62 (m_6.length + 1) (c62)) (res1 rfl (rv_t rfl)) (fun w' hw => ?_)
      exact ⟨A62, c62, xs ++ ([-1]), q + 1, ⟨⟨(by first | omega | (simp only [List.length_append, List.length_set, List.length_cons, List.length_nil]; omega)), (by first | omega | (simp only [List.length_append, List.length_set, List.length_cons, List.length_nil]; omega)), hxs.app (fun x hx => by simp only [List.mem_singleton] at hx; omega)⟩, by omega, by omega⟩, (by first | rfl | (simp only [List.length_append, List.length_set, hx1]; done) | (simp only [List.length_append, List.length_set, hx1]; rfl)), ((.consE (show row 3 1 A62 (m_6.length + 1) (c62) (cells fI (xs ++ ([-1]))) = row 3 1 A62 ((xs ++ ([-1])).length) (c62) (cells fI (xs ++ ([-1]))) by first | rfl | (simp only [List.length_append, List.length_set, hx1]; done) | (simp only [List.length_append, List.length_set, hx1]; rfl)) (.head) (.cons (.tail .head) ((.drop (.drop (.drop .refl))))) : Keep _ _).ss hw)⟩
    ·
      refine wl_v (ov_assign rfl) rfl rfl rfl ?_
      refine wl_nil ?_
      refine ce_then ?_
      refine cw_false rfl ?_
      refine cw_seq ?_
      refine cw_region ?_
      refine wl_if (ov_eql rfl rfl) rfl rfl rfl (fun c64 => ?_) (fun c64 => ?_)
      ·
        refine wl_v (ov_assign rfl) rfl rfl rfl ?_
        refine wl_nil ?_
        refine ce_then ?_
        refine cw_true rfl ?_
        refine cw_seq ?_
        refine cw_region ?_
        refine wl_r (or_buildSlice (e := 3) (size := 1) (is := []) (vs := []) (cs := cells fI ([])) rfl rfl rfl (by decide) (fun _ => by kernel_rfl)) rfl rfl (kt1 rfl (fun g65 => ?_))
        refine wl_v (ov_assign rfl) rfl rfl rfl ?_
        refine wl_nil ?_
        refine ce_then ?_
        refine cw_ret ?_
        refine ce_block_ret ?_
        refine ce_then_ret ?_
        refine ce_results (v := .slice (some ⟨g65, 0, none⟩) (0) (0)) (res1 rfl (rv_t rfl)) (fun w' hw => ?_)
        exact ⟨some ⟨g65, 0, none⟩, 0, [], q + 1, ⟨⟨Nat.le_refl _, Nat.zero_le _, fun x hx => by cases hx⟩, by omega, by omega⟩, rfl, ((.cons (.head) (.cons (.head) ((.drop (.drop (.drop .refl))))) : Keep _ _).ss hw)⟩
      ·
        refine wl_v (ov_assign rfl) rfl rfl rfl ?_
        refine wl_nil ?_
        refine ce_then ?_
        refine cw_false rfl ?_
        refine cw_skip ?_
        refine ce_block ?_
        refine ce_then ?_
        refine cw_seq ?_
        refine cw_region ?_
        refine wl_v (ov_move rfl) rfl rfl rfl ?_
        refine wl_v (ov_assign rfl) rfl rfl rfl ?_
        refine wl_nil ?_
        refine ce_then ?_
        refine cw_ret ?_
        refine ce_results (v := .slice A2_7 (m_6.length) (c2_7)) (res1 rfl (rv_t rfl)) (fun w' hw => ?_)
        exact ⟨A2_7, c2_7, xs, q + 1, ⟨⟨(by first | omega | (simp only [List.length_append, List.length_set, List.length_cons, List.length_nil]; omega)), (by first | omega | (simp only [List.length_append, List.length_set, List.length_cons, List.length_nil]; omega)), hxs⟩, by omega, by omega⟩, (by first | rfl | (simp only [List.length_append, List.length_set, hx1]; done) | (simp only [List.length_append, List.length_set, hx1]; rfl)), ((.consE (show row 3 1 A2_7 (m_6.length) (c2_7) (cells fI xs) = row 3 1 A2_7 ((xs).length) (c2_7) (cells fI xs) by first | rfl | (simp only [List.length_append, List.length_set, hx1]; done) | (simp only [List.length_append, List.length_set, hx1]; rfl)) (.tail .head) (.cons (.head) ((.drop (.drop .refl)))) : Keep _ _).ss hw)⟩
set_option maxRecDepth 100000 in
theorem DrawIsStrongScores_c (w : World) (Ar : Option Addr) (nr : Nat) (cr : Nat) (bs : List (Nat)) (hAr : At w Ar (cells fY bs)) (eAr : bs.length = nr) (lAr : nr ≤ cr) (hb : ∀ x ∈ bs, x < 256) : Calls Try.prog 18 #[.slice Ar (nr) (cr)] w (Ret fun rv w' => ∃ A2 c2 ys, (ys.length ≤ c2 ∧ ys.length ≤ 6 ∧ Sm ys) ∧ rv = .slice A2 (ys.length) (c2) ∧ New w w' [row 3 1 A2 (ys.length) (c2) (cells fI ys)]) := by
  have oAr := hAr.atB
  subst eAr
  refine fn_enter (args := [.slice Ar (bs.length) (cr)]) Try.func18 rfl Try.ntmps18 rfl (SS.start w) ?_
  refine cw_seq ?_
  refine cw_region ?_
  refine wl_v (ov_assign rfl) rfl rfl rfl ?_
  refine wl_nil ?_
  refine ce_then ?_
  refine cw_seq ?_
  refine cw_region ?_
  refine wl_v (ov_move rfl) rfl rfl rfl ?_
  refine wl_r (or_call (fv := []) (vs := [.slice Ar (bs.length) (cr)]) (cs := []) en39 rfl rfl (call_x2 (fun w hw => newReader_c w Ar bs.length cr bs ((holds_old oAr) w hw) rfl lAr))) rfl rfl (kt2p rfl (fun g_4 n2_4 h_4 => ?_))
  refine wl_r (or_call (fv := []) (vs := [elp (some ⟨g_4, 0, none⟩) (0)]) (cs := []) en46 rfl rfl (call_o (.cons (.head) (.nil)) (fun w hw => someScores_c w _ _ _ g_4 Ar n2_4 cr (bs.take n2_4) 0 (holds_takeC (k := n2_4) fY_len (holds_old oAr)) (by rw [List.length_take]; omega) (by omega) ⟨by omega, fun x hx => hb x (List.mem_of_mem_take hx), by omega⟩ hw))) rfl rfl (kt4p rfl (fun A2_5 c2_5 ys_5 q_5 h_5 => ?_))
  refine wl_v (ov_assign rfl) rfl rfl rfl ?_
  refine wl_nil ?_
  refine ce_then ?_
  refine cw_ret ?_
  refine ce_results (v := .slice A2_5 (ys_5.length) (c2_5)) (res1 rfl (rv_t rfl)) (fun w' hw => ?_)
  exact ⟨A2_5, c2_5, ys_5, h_5.1, rfl, ((.cons (.head) (.nil) : Keep _ _).ss hw).to_new⟩
end Go.Proofs.Ytholcpgoioaccaa.W31
