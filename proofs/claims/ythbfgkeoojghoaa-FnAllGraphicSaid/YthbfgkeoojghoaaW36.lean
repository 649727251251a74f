/- Walks of functions of the given program: each returns what its Lean function says and leaves the memory that was there as it was. Conditions: those of each theorem. -/
import Derived.Test.YthbfgkeoojghoaaSm
import Derived.Test.YthbfgkeoojghoaaProg
import Derived.Test.YthbfgkeoojghoaaPl
import Derived.Test.YthbfgkeoojghoaaPo
import Derived.Test.YthbfgkeoojghoaaPd
import Derived.Test.YthbfgkeoojghoaaPe
import Derived.Test.YthbfgkeoojghoaaPh
import Derived.Test.YthbfgkeoojghoaaPm
import Derived.Test.YthbfgkeoojghoaaPc
import Derived.Test.YthbfgkeoojghoaaPs
import Derived.Test.YthbfgkeoojghoaaPt
import Derived.Test.YthbfgkeoojghoaaPu
import Derived.Test.YthbfgkeoojghoaaPv
import Derived.Test.YthbfgkeoojghoaaSo
import Derived.Test.YthbfgkeoojghoaaSh
import Derived.Test.YthbfgkeoojghoaaT
import Derived.Test.YthbfgkeoojghoaaW1
import Derived.Test.YthbfgkeoojghoaaW2
import Derived.Test.YthbfgkeoojghoaaW6
import Derived.Test.YthbfgkeoojghoaaW7
import Derived.Test.YthbfgkeoojghoaaW11
import Derived.Test.YthbfgkeoojghoaaW13
import Derived.KernelRfl
namespace Go.Proofs.Ythbfgkeoojghoaa.W36
open Go.Sx Go.RowKit Go.Proofs.Ythbfgkeoojghoaa.T Go.Proofs.Ythbfgkeoojghoaa.W1 Go.Proofs.Ythbfgkeoojghoaa.W2 Go.Proofs.Ythbfgkeoojghoaa.W6 Go.Proofs.Ythbfgkeoojghoaa.W7 Go.Proofs.Ythbfgkeoojghoaa.W11 Go.Proofs.Ythbfgkeoojghoaa.W13
open Go.Plain
set_option linter.unusedVariables false
set_option maxRecDepth 100000 in
theorem listF_c (w : World) (A : Option Addr) (n : Nat) (c : Nat) (xs : List (Int)) (m : Nat) (t : Int) (hA : At w A (cells fI xs)) (eA : xs.length = n) (lA : n ≤ c) (hm : xs.length ≤ m ∧ m ≤ 5) (ht : -1 ≤ t ∧ t ≤ 4) : Calls Try.prog 76 #[.slice A (n) (c), .int .i64 (((m : Nat) : Int)), .int .i64 (t)] w (Ret fun rv w' => ∃ A2 c2 hs2, ((lfall (m - xs.length) xs t).length ≤ c2 ∧ True) ∧ rv = .slice A2 ((lfall (m - xs.length) xs t).length) (c2) ∧ New w w' [row 27 1 A2 ((lfall (m - xs.length) xs t).length) (c2) (cells fL hs2), nest 3 1 fI hs2 (lfall (m - xs.length) xs t)]) := by
  have oA := hA.atB
  subst eA
  refine fn_enter (args := [.slice A (xs.length) (c), .int .i64 (((m : Nat) : Int)), .int .i64 (t)]) Try.func76 rfl Try.ntmps76 rfl (SS.start w) ?_
  refine cw_seq ?_
  refine cw_region ?_
  refine wl_v (ov_assign rfl) rfl rfl rfl ?_
  refine wl_nil ?_
  refine ce_then ?_
  refine cw_seq ?_
  refine cw_seq ?_
  refine cw_region ?_
  refine wl_v (ov_move rfl) rfl rfl rfl ?_
  refine wl_v (ov_len (sliceI_spec sI27) rfl) rfl rfl rfl ?_
  refine wl_v (ov_move rfl) rfl rfl rfl ?_
  refine wl_if (ov_eql rfl rfl) rfl rfl rfl (fun c12 => ?_) (fun c12 => ?_)
  ·
    have hz : lfall (m - xs.length) xs t = [xs] := by rw [show m - xs.length = 0 from by omega]; rfl
    refine wl_nil ?_
    refine ce_then ?_
    refine cw_true rfl ?_
    refine cw_seq ?_
    refine ct_nest0 3 1 fI ?_
    refine cw_region ?_
    refine wl_v (ov_move rfl) rfl rfl rfl ?_
    refine wl_r (or_call (fv := []) (vs := [.slice A (xs.length) (c)]) (cs := []) en104 rfl rfl (call_x2 (fun w hw => copyInts_c w A xs.length c xs ((holds_old oA) w hw) rfl lA (by omega)))) rfl rfl (kt2p rfl (fun A2_14 c2_14 h_14 => ?_))
    refine wl_r (or_buildSlice (e := 27) (size := 1) (is := [0]) (vs := [.slice A2_14 (xs.length) (c2_14)]) (cs := cells fL ([(A2_14, xs.length, c2_14)])) rfl rfl rfl (by decide) (fun _ => by kernel_rfl)) rfl rfl (kt1 rfl (fun g15 => ?_))
    refine ct_push (k := c2_14) (.cons (.tail (.tail .head)) (.cons (.tail .head) (.cons (.head) (.nil)))) (rfl) (h_14) ?_
    refine wl_v (ov_assign rfl) rfl rfl rfl ?_
    refine wl_nil ?_
    refine ce_then ?_
    refine cw_ret ?_
    refine ce_then_ret ?_
    refine ce_results (v := .slice (some ⟨g15, 0, none⟩) (1) (1)) (res1 rfl (rv_t rfl)) (fun w' hw => ?_)
    exact ⟨some ⟨g15, 0, none⟩, 1, [(A2_14, xs.length, c2_14)], ⟨by rw [hz]; exact Nat.le_refl _, trivial⟩, (by rw [hz] <;> rfl), ((.consE (show row 27 1 (some ⟨g15, 0, none⟩) (1) (1) (cells fL ([(A2_14, xs.length, c2_14)])) = row 27 1 (some ⟨g15, 0, none⟩) ((lfall (m - xs.length) xs t).length) (1) (cells fL ([(A2_14, xs.length, c2_14)])) by rw [hz] <;> rfl) (.tail .head) (.consE (show nest 3 1 fI ([] ++ [(A2_14, xs.length, c2_14)]) ([] ++ [xs]) = nest 3 1 fI ([] ++ [(A2_14, xs.length, c2_14)]) (lfall (m - xs.length) xs t) by rw [hz] <;> rfl) (.head) (.nil)) : Keep _ _).ss hw).to_new⟩
  ·
    refine wl_nil ?_
    refine ce_then ?_
    refine cw_false rfl ?_
    refine cw_skip ?_
    refine ce_then ?_
    refine cw_seq ?_
    refine ct_nest0 3 1 fI ?_
    refine cw_region ?_
    refine wl_r (or_buildSlice (e := 27) (size := 1) (is := []) (vs := []) (cs := cells fL ([])) rfl rfl rfl (by decide) (fun _ => by kernel_rfl)) rfl rfl (kt1 rfl (fun g16 => ?_))
    refine wl_v (ov_assign rfl) rfl rfl rfl ?_
    refine wl_nil ?_
    refine ce_then ?_
    refine cw_seq ?_
    refine cw_seq ?_
    refine cw_region ?_
    refine wl_v (ov_move rfl) rfl rfl rfl ?_
    refine wl_v (ov_assign rfl) rfl rfl rfl ?_
    refine wl_nil ?_
    refine ce_then ?_
    refine cw_block ?_
    refine cw_loop4 (fun (j : Nat) (A3 : Option Addr) (c3 : Nat) (hs3 : List Hd) => [(0, .slice A (xs.length) (c)), (1, .int .i64 (((m : Nat) : Int))), (6, .slice none (0) (0)), (7, .slice A3 ((lfTo (m - xs.length - 1) xs t j).length) (c3)), (8, .int .i64 (t - ((j : Nat) : Int)))]) (fun (j : Nat) (A3 : Option Addr) (c3 : Nat) (hs3 : List Hd) => [row 27 1 A3 ((lfTo (m - xs.length - 1) xs t j).length) (c3) (cells fL hs3), nest 3 1 fI hs3 (lfTo (m - xs.length - 1) xs t j)]) (fun (j : Nat) (A3 : Option Addr) (c3 : Nat) (hs3 : List Hd) => (j : Int) ≤ t + 1 ∧ (lfTo (m - xs.length - 1) xs t j).length ≤ c3) (fun (j : Nat) (A3 : Option Addr) (c3 : Nat) (hs3 : List Hd) => 6 - j) 0 (some ⟨g16, 0, none⟩) 0 ([]) ⟨by omega, Nat.le_refl _⟩ (.cons rfl (.cons rfl (.cons rfl (.cons (congrArg (fun z => some (Value.slice (some ⟨g16, 0, none⟩) z 0)) (show 0 = ((lfTo (m - xs.length - 1) xs t 0).length) from rfl)) (.cons (congrArg (fun z => some (Value.int .i64 z)) (show t = (t - ((0 : Nat) : Int)) from (by omega))) (.nil)))))) (.consE (show row 27 1 (some ⟨g16, 0, none⟩) (0) (0) (cells fL ([])) = row 27 1 (some ⟨g16, 0, none⟩) ((lfTo (m - xs.length - 1) xs t 0).length) (0) (cells fL ([])) by rfl) (.head) (.consE (show nest 3 1 fI ([]) ([]) = nest 3 1 fI ([]) (lfTo (m - xs.length - 1) xs t 0) by rfl) (.head) (.nil))) ?_
    intro R0 j A3 c3 hs3 hk hR0
    obtain ⟨hk1, hk2⟩ := hk
    have hfe : m - xs.length = (m - xs.length - 1) + 1 := by omega
    have hlt := lfTo_len (f := m - xs.length - 1) (h := xs) (t := t) (by omega) (by omega) (j := j) (by omega)
    refine cw_seq ?_
    refine cw_seq ?_
    refine cw_region ?_
    refine wl_v (ov_move rfl) rfl rfl rfl ?_
    refine wl_if (ov_geq rfl rfl) rfl rfl rfl (fun c19 => ?_) (fun c19 => ?_)
    ·
      refine wl_nil ?_
      refine ce_then ?_
      refine cw_true rfl ?_
      refine cw_skip ?_
      refine ce_then ?_
      refine cw_seq ?_
      refine cw_block ?_
      refine cw_region ?_
      refine wl_v (ov_move rfl) rfl rfl rfl ?_
      refine wl_v (ov_move rfl) rfl rfl rfl ?_
      refine wl_r (or_call (fv := []) (vs := [.slice A (xs.length) (c)]) (cs := []) en104 rfl rfl (call_x2 (fun w hw => copyInts_c w A xs.length c xs ((holds_old oA) w hw) rfl lA (by omega)))) rfl rfl (kt2p rfl (fun A2_24 c2_24 h_24 => ?_))
      refine wl_v (ov_move rfl) rfl rfl rfl ?_
      refine wl_r (or_buildSlice (e := 3) (size := 1) (is := [0]) (vs := [.int .i64 (t - ((j : Nat) : Int))]) (cs := cells fI ([t - ((j : Nat) : Int)])) rfl rfl rfl (by decide) (fun _ => by kernel_rfl)) rfl rfl (kt1 rfl (fun g26 => ?_))
      refine wl_r (or_append (c2 := 1) sI27 tI3 rfl (by decide) rfl rfl (.tail .head) (holds_row (List.Mem.head _)) ((by rw [cells_length fI_len]; rfl)) (one_cells fI_one _) cells_append (by omega) (by omega)) rfl rfl (kt2p rfl (fun A27 c27 h27 => ?_))
      refine wl_v (ov_move rfl) rfl rfl rfl ?_
      refine wl_v (ov_move rfl) rfl rfl rfl ?_
      refine wl_r (or_call (fv := []) (vs := [.slice A27 (xs.length + 1) (c27), .int .i64 (((m : Nat) : Int)), .int .i64 (t - ((j : Nat) : Int))]) (cs := []) en76 rfl rfl (call_x3 (fun w hw => listF_c w A27 (xs.length + 1) c27 (xs ++ ([t - ((j : Nat) : Int)])) m (t - ((j : Nat) : Int)) ((holds_row (List.Mem.head _)) w hw) (by rw [List.length_append]; rfl) h27 (by rw [List.length_append]; simp; omega) (by omega)))) rfl rfl (kt3p rfl (fun A2_30 c2_30 hs2_30 h_30 => ?_))
      have hlb := lfall_bd (f := m - xs.length - 1) (h := xs ++ [t - ((j : Nat) : Int)]) (t := t - ((j : Nat) : Int)) (by omega) (by omega)
      have hlfe : lfall (m - (xs ++ [t - ((j : Nat) : Int)]).length) (xs ++ [t - ((j : Nat) : Int)]) (t - ((j : Nat) : Int)) = lfall (m - xs.length - 1) (xs ++ [t - ((j : Nat) : Int)]) (t - ((j : Nat) : Int)) := by rw [show m - (xs ++ [t - ((j : Nat) : Int)]).length = m - xs.length - 1 from by rw [List.length_append]; simp; omega]
      have hnl : (lfTo (m - xs.length - 1) xs t (j + 1)).length = (lfTo (m - xs.length - 1) xs t j).length + (lfall (m - (xs ++ [t - ((j : Nat) : Int)]).length) (xs ++ [t - ((j : Nat) : Int)]) (t - ((j : Nat) : Int))).length := by rw [lfTo_succ, hlfe, List.length_append]
      rw [← hlfe] at hlb
      refine ct_fact (nest_facts (List.Mem.tail _ (List.Mem.head _))) (fun hnf9 => ?_)
      have hnfns_30 := hnf9.1
      refine wl_r (or_append (c2 := c2_30) sI50 tI27 rfl (by decide) rfl rfl (.tail (.tail (.tail (.tail .head)))) (holds_row (List.Mem.head _)) ((by rw [cells_length fL_len]; have h9 := hnfns_30; omega)) (one_cells fL_one _) cells_append (by omega) (by omega)) rfl rfl (kt2p rfl (fun A31 c31 h31 => ?_))
      refine ct_nestapp (.cons (.tail (.tail (.tail (.tail (.tail .head))))) (.cons (.tail (.tail .head)) (.cons (.head) (.cons (.head) (.cons (.head) (.cons (.head) (.nil))))))) ?_
      refine wl_v (ov_assign rfl) rfl rfl rfl ?_
      refine wl_nil ?_
      refine ce_block ?_
      refine ce_then ?_
      refine cw_region ?_
      refine wl_v (ov_move rfl) rfl rfl rfl ?_
      refine wl_v (ov_sub (r := (t - ((j : Nat) : Int)) - 1) rfl rfl rfl (by omega)) rfl rfl rfl ?_
      refine wl_v (ov_assign rfl) rfl rfl rfl ?_
      refine wl_nil ?_
      exact fun ac_ w_ hs_ => hR0 (j + 1) A31 c31 (hs3 ++ hs2_30) ⟨by omega, by rw [hnl]; exact h31⟩ (by omega) ac_ w_ (hs_.weaken (.cons rfl (.cons rfl (.cons rfl (.cons (congrArg (fun z => some (Value.slice A31 z c31)) (show (((lfTo (m - xs.length - 1) xs t j).length) + ((lfall (m - (xs ++ ([t - ((j : Nat) : Int)])).length) (xs ++ ([t - ((j : Nat) : Int)])) (t - ((j : Nat) : Int))).length)) = ((lfTo (m - xs.length - 1) xs t (j + 1)).length) from (by rw [hnl]))) (.cons (congrArg (fun z => some (Value.int .i64 z)) (show ((t - ((j : Nat) : Int)) - 1) = (t - (((j + 1) : Nat) : Int)) from (by omega))) (.nil)))))) (.consE (show row 27 1 A31 (((lfTo (m - xs.length - 1) xs t j).length) + ((lfall (m - (xs ++ ([t - ((j : Nat) : Int)])).length) (xs ++ ([t - ((j : Nat) : Int)])) (t - ((j : Nat) : Int))).length)) (c31) (cells fL (hs3 ++ hs2_30)) = row 27 1 A31 ((lfTo (m - xs.length - 1) xs t (j + 1)).length) (c31) (cells fL (hs3 ++ hs2_30)) by rw [hnl]) (.tail .head) (.consE (show nest 3 1 fI (hs3 ++ hs2_30) ((lfTo (m - xs.length - 1) xs t j) ++ (lfall (m - (xs ++ ([t - ((j : Nat) : Int)])).length) (xs ++ ([t - ((j : Nat) : Int)])) (t - ((j : Nat) : Int)))) = nest 3 1 fI (hs3 ++ hs2_30) (lfTo (m - xs.length - 1) xs t (j + 1)) by rw [lfTo_succ, ← hlfe]) (.head) (.nil))))
    ·
      have hz : lfall (m - xs.length) xs t = lfTo (m - xs.length - 1) xs t j := by rw [hfe, lfall_succ, show (t + 1).toNat = j from by omega]; rfl
      refine wl_nil ?_
      refine ce_then ?_
      refine cw_false rfl ?_
      refine cw_exit ?_
      refine ce_then_exit ?_
      refine ce_then_exit ?_
      refine ce_hit ?_
      refine ce_then ?_
      refine cw_seq ?_
      refine cw_region ?_
      refine wl_v (ov_move rfl) rfl rfl rfl ?_
      refine wl_v (ov_assign rfl) rfl rfl rfl ?_
      refine wl_nil ?_
      refine ce_then ?_
      refine cw_ret ?_
      refine ce_results (v := .slice A3 ((lfTo (m - xs.length - 1) xs t j).length) (c3)) (res1 rfl (rv_t rfl)) (fun w' hw => ?_)
      exact ⟨A3, c3, hs3, ⟨by rw [hz]; exact hk2, trivial⟩, (by rw [hz]), ((.consE (show row 27 1 A3 ((lfTo (m - xs.length - 1) xs t j).length) (c3) (cells fL hs3) = row 27 1 A3 ((lfall (m - xs.length) xs t).length) (c3) (cells fL hs3) by rw [hz]) (.head) (.consE (show nest 3 1 fI hs3 (lfTo (m - xs.length - 1) xs t j) = nest 3 1 fI hs3 (lfall (m - xs.length) xs t) by rw [hz]) (.head) (.nil)) : Keep _ _).ss hw).to_new⟩
termination_by m - xs.length
decreasing_by all_goals (simp only [List.length_append, List.length_cons, List.length_nil]; omega)
set_option maxRecDepth 100000 in
theorem AllGS_c (w : World) (n : Int)  : Calls Try.prog 31 #[.int .i64 (n)] w (Ret fun rv w' => ∃ A2 c2 hs2, ((allGV n).length ≤ c2 ∧ True) ∧ rv = .slice A2 ((allGV n).length) (c2) ∧ New w w' [row 27 1 A2 ((allGV n).length) (c2) (cells fL hs2), nest 3 1 fI hs2 (allGV n)]) := by
  refine fn_enter (args := [.int .i64 (n)]) Try.func31 rfl Try.ntmps31 rfl (SS.start w) ?_
  refine cw_seq ?_
  refine cw_region ?_
  refine wl_v (ov_assign rfl) rfl rfl rfl ?_
  refine wl_nil ?_
  refine ce_then ?_
  refine cw_seq ?_
  refine cw_seq ?_
  refine cw_region ?_
  refine wl_v (ov_move rfl) rfl rfl rfl ?_
  refine wl_r (or_call (fv := []) (vs := [.int .i64 (n), .int .i64 (0), .int .i64 (5)]) (cs := []) en75 rfl rfl (call_v (fun w hw => inRange_c w n 0 5 ))) rfl rfl (kt_if rfl (fun c7 => ?_) (fun c7 => ?_))
  ·
    obtain ⟨m, rfl⟩ := Int.eq_ofNat_of_zero_le (show 0 ≤ n from c7.1)
    have hv : allGV ((m : Nat) : Int) = (lfall (m - ([] : List Int).length) ([] : List Int) (((m : Nat) : Int) - 1)).filter grB := (if_pos (by omega)).trans (by rw [Int.toNat_natCast]; rfl)
    have hlb := lfall_bd (f := m - ([] : List Int).length) (h := ([] : List Int)) (t := ((m : Nat) : Int) - 1) (by omega) (by simp; omega)
    refine wl_v (ov_not rfl) rfl rfl rfl ?_
    refine wl_nil ?_
    refine ce_then ?_
    refine cw_false rfl ?_
    refine cw_skip ?_
    refine ce_then ?_
    refine cw_seq ?_
    refine cw_region ?_
    refine wl_r (or_buildSlice (e := 27) (size := 1) (is := []) (vs := []) (cs := cells fL ([])) rfl rfl rfl (by decide) (fun _ => by kernel_rfl)) rfl rfl (kt1 rfl (fun g9 => ?_))
    refine wl_v (ov_assign rfl) rfl rfl rfl ?_
    refine wl_nil ?_
    refine ce_then ?_
    refine cw_seq ?_
    refine cw_region ?_
    refine wl_r (or_buildSlice (e := 3) (size := 1) (is := []) (vs := []) (cs := cells fI ([])) rfl rfl rfl (by decide) (fun _ => by kernel_rfl)) rfl rfl (kt1 rfl (fun g10 => ?_))
    refine ct_keep (L' := [(0, .int .i64 (((m : Nat) : Int))), (2, .slice none (0) (0)), (3, .slice (some ⟨g9, 0, none⟩) (0) (0)), (6, .int .i64 (((m : Nat) : Int))), (7, .bool true), (8, .bool false), (9, .slice (some ⟨g9, 0, none⟩) (0) (0)), (10, .slice (some ⟨g10, 0, none⟩) (0) (0))]) (.cons rfl (.cons rfl (.cons rfl (.cons rfl (.cons rfl (.cons rfl (.cons rfl (.cons rfl (.nil))))))))) (.consE (show row 3 1 (some ⟨g10, 0, none⟩) (0) (0) (cells fI ([])) = row 3 1 (some ⟨g10, 0, none⟩) (0) (0) (cells fI ([] : List Int)) by rfl) (.head) (.cons (.head) (.nil))) ?_
    refine wl_v (ov_move rfl) rfl rfl rfl ?_
    refine wl_v (ov_move rfl) rfl rfl rfl ?_
    refine wl_v (ov_sub (r := ((m : Nat) : Int) - 1) rfl rfl rfl (by omega)) rfl rfl rfl ?_
    refine wl_r (or_call (fv := []) (vs := [.slice (some ⟨g10, 0, none⟩) (0) (0), .int .i64 (((m : Nat) : Int)), .int .i64 (((m : Nat) : Int) - 1)]) (cs := []) en76 rfl rfl (call_x3 (fun w hw => listF_c w (some ⟨g10, 0, none⟩) 0 0 ([] : List Int) m (((m : Nat) : Int) - 1) ((holds_row (List.Mem.head _)) w hw) rfl (Nat.le_refl _) (by simp; omega) (by omega)))) rfl rfl (kt3p rfl (fun A2_14 c2_14 hs2_14 h_14 => ?_))
    refine ct_fact (nest_facts (List.Mem.tail _ (List.Mem.head _))) (fun hnfz => ?_)
    have hnfl := hnfz.1
    refine wl_v (ov_assign rfl) rfl rfl rfl ?_
    refine wl_nil ?_
    refine ce_then ?_
    refine cw_seq ?_
    refine cw_seq ?_
    refine cw_region ?_
    refine wl_v (ov_assign rfl) rfl rfl rfl ?_
    refine wl_nil ?_
    refine ce_then ?_
    refine cw_block ?_
    refine cw_loop3 (fun (k : Nat) (A3 : Option Addr) (c3 : Nat) => [(2, .slice none (0) (0)), (4, .slice A2_14 ((lfall (m - ([] : List Int).length) ([] : List Int) (((m : Nat) : Int) - 1)).length) (c2_14)), (3, .slice A3 ((keepH grB (hs2_14.take k) ((lfall (m - ([] : List Int).length) ([] : List Int) (((m : Nat) : Int) - 1)).take k)).length) (c3)), (5, .int .i64 (((k : Nat) : Int)))]) (fun (k : Nat) (A3 : Option Addr) (c3 : Nat) => [row 27 1 A2_14 ((lfall (m - ([] : List Int).length) ([] : List Int) (((m : Nat) : Int) - 1)).length) (c2_14) (cells fL hs2_14), nest 3 1 fI hs2_14 (lfall (m - ([] : List Int).length) ([] : List Int) (((m : Nat) : Int) - 1)), row 3 1 (some ⟨g10, 0, none⟩) (0) (0) (cells fI ([] : List Int)), row 27 1 A3 ((keepH grB (hs2_14.take k) ((lfall (m - ([] : List Int).length) ([] : List Int) (((m : Nat) : Int) - 1)).take k)).length) (c3) (cells fL (keepH grB (hs2_14.take k) ((lfall (m - ([] : List Int).length) ([] : List Int) (((m : Nat) : Int) - 1)).take k)))]) (fun (k : Nat) (A3 : Option Addr) (c3 : Nat) => k ≤ (lfall (m - ([] : List Int).length) ([] : List Int) (((m : Nat) : Int) - 1)).length ∧ (keepH grB (hs2_14.take k) ((lfall (m - ([] : List Int).length) ([] : List Int) (((m : Nat) : Int) - 1)).take k)).length ≤ c3) (fun (k : Nat) (A3 : Option Addr) (c3 : Nat) => (lfall (m - ([] : List Int).length) ([] : List Int) (((m : Nat) : Int) - 1)).length - k) 0 (some ⟨g9, 0, none⟩) 0 ⟨by omega, by simp [keepH]⟩ (.cons rfl (.cons rfl (.cons (congrArg (fun z => some (Value.slice (some ⟨g9, 0, none⟩) z 0)) (show 0 = ((keepH grB (hs2_14.take 0) ((lfall (m - ([] : List Int).length) ([] : List Int) (((m : Nat) : Int) - 1)).take 0)).length) from (by simp [keepH]))) (.cons (congrArg (fun z => some (Value.int .i64 z)) (show 0 = ((0 : Nat) : Int) by first | omega | rfl | (simp; done))) (.nil))))) (.cons (.head) (.cons (.head) (.cons (.head) (.consE (show row 27 1 (some ⟨g9, 0, none⟩) (0) (0) (cells fL ([])) = row 27 1 (some ⟨g9, 0, none⟩) ((keepH grB (hs2_14.take 0) ((lfall (m - ([] : List Int).length) ([] : List Int) (((m : Nat) : Int) - 1)).take 0)).length) (0) (cells fL (keepH grB (hs2_14.take 0) ((lfall (m - ([] : List Int).length) ([] : List Int) (((m : Nat) : Int) - 1)).take 0))) by simp [keepH]) (.head) (.nil))))) ?_
    intro R0 k A3 c3 hk hR0
    obtain ⟨hk1, hk2⟩ := hk
    have hkl : (keepH grB (hs2_14.take k) ((lfall (m - ([] : List Int).length) ([] : List Int) (((m : Nat) : Int) - 1)).take k)).length ≤ 4000 := by rw [keepH_length (by rw [List.length_take, List.length_take, hnfz.1])]; have h9 := List.length_filter_le grB ((lfall (m - ([] : List Int).length) ([] : List Int) (((m : Nat) : Int) - 1)).take k); rw [List.length_take] at h9; omega
    refine cw_seq ?_
    refine cw_seq ?_
    refine cw_region ?_
    refine wl_v (ov_move rfl) rfl rfl rfl ?_
    refine wl_v (ov_move rfl) rfl rfl rfl ?_
    refine wl_v (ov_len (sliceI_spec sI50) rfl) rfl rfl rfl ?_
    refine wl_if (ov_lss rfl rfl) rfl rfl rfl (fun c18 => ?_) (fun c18 => ?_)
    ·
      refine wl_nil ?_
      refine ce_then ?_
      refine cw_true rfl ?_
      refine cw_skip ?_
      refine ce_then ?_
      refine cw_seq ?_
      refine cw_block ?_
      refine cw_seq ?_
      refine cw_region ?_
      refine wl_v (ov_move rfl) rfl rfl rfl ?_
      refine wl_v (ov_move rfl) rfl rfl rfl ?_
      refine ct_fact (nest_facts (List.Mem.tail _ (List.Mem.head _))) (fun hnf23 => ?_)
      have hnl23 := hnf23.1
      refine wl_v (ov_index (k := k) (c := c2_14) sI50 tI27 rfl rfl (some_holds (q := k * 1) (holds_row (List.Mem.head _)) (by rw [cells_length fL_len]; have hlt : k < hs2_14.length := (by omega); omega)) (show k < (lfall (m - ([] : List Int).length) ([] : List Int) (((m : Nat) : Int) - 1)).length from (by omega))) rfl rfl rfl ?_
      refine wl_v (ov_load tI27 (holds_row (List.Mem.head _)) rfl (get_fLn hnf23 (show k < (lfall (m - ([] : List Int).length) ([] : List Int) (((m : Nat) : Int) - 1)).length from (by omega)))) rfl rfl rfl ?_
      have hvx := lfall_valid (n := m) (by omega) (x := (lfall (m - ([] : List Int).length) ([] : List Int) (((m : Nat) : Int) - 1)).getD k []) (getD_mem (xs := lfall (m - ([] : List Int).length) ([] : List Int) (((m : Nat) : Int) - 1)) (k := k) [] (by omega))
      refine wl_r (or_call (fv := []) (vs := [.slice ((hs2_14.getD k (none, 0, 0)).1) (((lfall (m - ([] : List Int).length) ([] : List Int) (((m : Nat) : Int) - 1)).getD k []).length) ((hs2_14.getD k (none, 0, 0)).2.2)]) (cs := []) en77 rfl rfl (call_v (fun w hw => isGraphic_c w ((hs2_14.getD k (none, 0, 0)).1) (((lfall (m - ([] : List Int).length) ([] : List Int) (((m : Nat) : Int) - 1)).getD k []).length) ((hs2_14.getD k (none, 0, 0)).2.2) ((lfall (m - ([] : List Int).length) ([] : List Int) (((m : Nat) : Int) - 1)).getD k []) ((holds_nest (List.Mem.tail _ (List.Mem.head _)) (show k < (lfall (m - ([] : List Int).length) ([] : List Int) (((m : Nat) : Int) - 1)).length from (by omega))) w hw) rfl (hnf23.2 k (show k < (lfall (m - ([] : List Int).length) ([] : List Int) (((m : Nat) : Int) - 1)).length from (by omega))).2 hvx))) rfl rfl (kt_if rfl (fun c25 => ?_) (fun c25 => ?_))
      ·
        have hks : keepH grB (hs2_14.take (k + 1)) ((lfall (m - ([] : List Int).length) ([] : List Int) (((m : Nat) : Int) - 1)).take (k + 1)) = keepH grB (hs2_14.take k) ((lfall (m - ([] : List Int).length) ([] : List Int) (((m : Nat) : Int) - 1)).take k) ++ [((hs2_14.getD k (none, 0, 0)).1, ((lfall (m - ([] : List Int).length) ([] : List Int) (((m : Nat) : Int) - 1)).getD k []).length, (hs2_14.getD k (none, 0, 0)).2.2)] := by
          rw [take_succ (none, 0, 0) (by omega), take_succ [] (by omega), keepH_snoc (by rw [List.length_take, List.length_take, hnfz.1]), if_pos (show grB _ = true from decide_eq_true ⟨hvx, c25⟩)]
          exact congrArg (fun z => keepH grB (hs2_14.take k) ((lfall (m - ([] : List Int).length) ([] : List Int) (((m : Nat) : Int) - 1)).take k) ++ [z]) (show hs2_14.getD k (none, 0, 0) = _ from by rw [← (hnfz.2 k (by omega)).1])
        refine wl_nil ?_
        refine ce_then ?_
        refine cw_true rfl ?_
        refine cw_region ?_
        refine wl_v (ov_move rfl) rfl rfl rfl ?_
        refine wl_v (ov_move rfl) rfl rfl rfl ?_
        refine wl_v (ov_move rfl) rfl rfl rfl ?_
        refine ct_fact (nest_facts (List.Mem.tail _ (List.Mem.head _))) (fun hnf29 => ?_)
        have hnl29 := hnf29.1
        refine wl_v (ov_index (k := k) (c := c2_14) sI50 tI27 rfl rfl (some_holds (q := k * 1) (holds_row (List.Mem.head _)) (by rw [cells_length fL_len]; have hlt : k < hs2_14.length := (by omega); omega)) (show k < (lfall (m - ([] : List Int).length) ([] : List Int) (((m : Nat) : Int) - 1)).length from (by omega))) rfl rfl rfl ?_
        refine wl_v (ov_load tI27 (holds_row (List.Mem.head _)) rfl (get_fLn hnf29 (show k < (lfall (m - ([] : List Int).length) ([] : List Int) (((m : Nat) : Int) - 1)).length from (by omega)))) rfl rfl rfl ?_
        refine wl_r (or_buildSlice (e := 27) (size := 1) (is := [0]) (vs := [.slice ((hs2_14.getD k (none, 0, 0)).1) (((lfall (m - ([] : List Int).length) ([] : List Int) (((m : Nat) : Int) - 1)).getD k []).length) ((hs2_14.getD k (none, 0, 0)).2.2)]) (cs := cells fL ([((hs2_14.getD k (none, 0, 0)).1, ((lfall (m - ([] : List Int).length) ([] : List Int) (((m : Nat) : Int) - 1)).getD k []).length, (hs2_14.getD k (none, 0, 0)).2.2)])) rfl rfl rfl (by decide) (fun _ => by kernel_rfl)) rfl rfl (kt1 rfl (fun g31 => ?_))
        refine wl_r (or_append (c2 := 1) sI50 tI27 rfl (by decide) rfl rfl (.tail (.tail (.tail (.tail .head)))) (holds_row (List.Mem.head _)) ((by rw [cells_length fL_len]; rfl)) (one_cells fL_one _) cells_append (by omega) (by omega)) rfl rfl (kt2p rfl (fun A32 c32 h32 => ?_))
        refine wl_v (ov_assign rfl) rfl rfl rfl ?_
        refine wl_nil ?_
        refine ce_block ?_
        refine ce_then ?_
        refine cw_region ?_
        refine wl_v (ov_move rfl) rfl rfl rfl ?_
        refine wl_v (ov_add (r := ((k + 1 : Nat) : Int)) rfl rfl rfl (by omega)) rfl rfl rfl ?_
        refine wl_v (ov_assign rfl) rfl rfl rfl ?_
        refine wl_nil ?_
        exact fun ac_ w_ hs_ => hR0 (k + 1) A32 c32 ⟨by omega, by rw [hks, List.length_append]; exact h32⟩ (by omega) ac_ w_ (hs_.weaken (.cons rfl (.cons rfl (.cons (congrArg (fun z => some (Value.slice A32 z c32)) (show (((keepH grB (hs2_14.take k) ((lfall (m - ([] : List Int).length) ([] : List Int) (((m : Nat) : Int) - 1)).take k)).length) + 1) = ((keepH grB (hs2_14.take (k + 1)) ((lfall (m - ([] : List Int).length) ([] : List Int) (((m : Nat) : Int) - 1)).take (k + 1))).length) from (by rw [hks, List.length_append]; rfl))) (.cons rfl (.nil))))) (.cons (.tail (.tail .head)) (.cons (.tail (.tail .head)) (.cons (.tail (.tail .head)) (.consE (show row 27 1 A32 (((keepH grB (hs2_14.take k) ((lfall (m - ([] : List Int).length) ([] : List Int) (((m : Nat) : Int) - 1)).take k)).length) + 1) (c32) (cells fL ((keepH grB (hs2_14.take k) ((lfall (m - ([] : List Int).length) ([] : List Int) (((m : Nat) : Int) - 1)).take k)) ++ ([((hs2_14.getD k (none, 0, 0)).1, ((lfall (m - ([] : List Int).length) ([] : List Int) (((m : Nat) : Int) - 1)).getD k []).length, (hs2_14.getD k (none, 0, 0)).2.2)]))) = row 27 1 A32 ((keepH grB (hs2_14.take (k + 1)) ((lfall (m - ([] : List Int).length) ([] : List Int) (((m : Nat) : Int) - 1)).take (k + 1))).length) (c32) (cells fL (keepH grB (hs2_14.take (k + 1)) ((lfall (m - ([] : List Int).length) ([] : List Int) (((m : Nat) : Int) - 1)).take (k + 1)))) by rw [hks, List.length_append]; rfl) (.head) (.nil))))))
      ·
        have hks : keepH grB (hs2_14.take (k + 1)) ((lfall (m - ([] : List Int).length) ([] : List Int) (((m : Nat) : Int) - 1)).take (k + 1)) = keepH grB (hs2_14.take k) ((lfall (m - ([] : List Int).length) ([] : List Int) (((m : Nat) : Int) - 1)).take k) := by
          rw [take_succ (none, 0, 0) (by omega), take_succ [] (by omega), keepH_snoc (by rw [List.length_take, List.length_take, hnfz.1]), if_neg (fun h9 => c25 (of_decide_eq_true (show grB _ = true from h9)).2), List.append_nil]
        refine wl_nil ?_
        refine ce_then ?_
        refine cw_false rfl ?_
        refine cw_skip ?_
        refine ce_block ?_
        refine ce_then ?_
        refine cw_region ?_
        refine wl_v (ov_move rfl) rfl rfl rfl ?_
        refine wl_v (ov_add (r := ((k + 1 : Nat) : Int)) rfl rfl rfl (by omega)) rfl rfl rfl ?_
        refine wl_v (ov_assign rfl) rfl rfl rfl ?_
        refine wl_nil ?_
        exact fun ac_ w_ hs_ => hR0 (k + 1) A3 c3 ⟨by omega, by rw [hks]; exact hk2⟩ (by omega) ac_ w_ (hs_.weaken (.cons rfl (.cons rfl (.cons (congrArg (fun z => some (Value.slice A3 z c3)) (show ((keepH grB (hs2_14.take k) ((lfall (m - ([] : List Int).length) ([] : List Int) (((m : Nat) : Int) - 1)).take k)).length) = ((keepH grB (hs2_14.take (k + 1)) ((lfall (m - ([] : List Int).length) ([] : List Int) (((m : Nat) : Int) - 1)).take (k + 1))).length) from (by rw [hks]))) (.cons rfl (.nil))))) (.cons (.head) (.cons (.head) (.cons (.head) (.consE (show row 27 1 A3 ((keepH grB (hs2_14.take k) ((lfall (m - ([] : List Int).length) ([] : List Int) (((m : Nat) : Int) - 1)).take k)).length) (c3) (cells fL (keepH grB (hs2_14.take k) ((lfall (m - ([] : List Int).length) ([] : List Int) (((m : Nat) : Int) - 1)).take k))) = row 27 1 A3 ((keepH grB (hs2_14.take (k + 1)) ((lfall (m - ([] : List Int).length) ([] : List Int) (((m : Nat) : Int) - 1)).take (k + 1))).length) (c3) (cells fL (keepH grB (hs2_14.take (k + 1)) ((lfall (m - ([] : List Int).length) ([] : List Int) (((m : Nat) : Int) - 1)).take (k + 1)))) by rw [hks]) (.head) (.nil))))))
    ·
      refine ct_keepH grB (.cons (.tail .head) (.cons (.head) (.cons (.head) (.cons (.head) (.nil))))) ?_
      have hkf : keepH grB (hs2_14.take k) ((lfall (m - ([] : List Int).length) ([] : List Int) (((m : Nat) : Int) - 1)).take k) = keepH grB hs2_14 (lfall (m - ([] : List Int).length) ([] : List Int) (((m : Nat) : Int) - 1)) := by rw [List.take_of_length_le (by omega), List.take_of_length_le (by omega)]
      have hkl2 := keepH_length (p := grB) hnfz.1
      rw [hkf] at hk2
      refine wl_nil ?_
      refine ce_then ?_
      refine cw_false rfl ?_
      refine cw_exit ?_
      refine ce_then_exit ?_
      refine ce_then_exit ?_
      refine ce_hit ?_
      refine ce_then ?_
      refine cw_seq ?_
      refine cw_region ?_
      refine wl_v (ov_move rfl) rfl rfl rfl ?_
      refine wl_v (ov_assign rfl) rfl rfl rfl ?_
      refine wl_nil ?_
      refine ce_then ?_
      refine cw_ret ?_
      refine ce_results (v := .slice A3 ((keepH grB (hs2_14.take k) ((lfall (m - ([] : List Int).length) ([] : List Int) (((m : Nat) : Int) - 1)).take k)).length) (c3)) (res1 rfl (rv_t rfl)) (fun w' hw => ?_)
      exact ⟨A3, c3, keepH grB hs2_14 (lfall (m - ([] : List Int).length) ([] : List Int) (((m : Nat) : Int) - 1)), ⟨by rw [hv, ← hkl2]; exact hk2, trivial⟩, (by rw [hv, ← hkl2, hkf]), ((.consE (show row 27 1 A3 ((keepH grB (hs2_14.take k) ((lfall (m - ([] : List Int).length) ([] : List Int) (((m : Nat) : Int) - 1)).take k)).length) (c3) (cells fL (keepH grB (hs2_14.take k) ((lfall (m - ([] : List Int).length) ([] : List Int) (((m : Nat) : Int) - 1)).take k))) = row 27 1 A3 ((allGV ((m : Nat) : Int)).length) (c3) (cells fL (keepH grB hs2_14 (lfall (m - ([] : List Int).length) ([] : List Int) (((m : Nat) : Int) - 1)))) by rw [hv, ← hkl2, hkf]) (.tail (.tail (.tail .head))) (.consE (show nest 3 1 fI (keepH grB hs2_14 (lfall (m - ([] : List Int).length) ([] : List Int) (((m : Nat) : Int) - 1))) ((lfall (m - ([] : List Int).length) ([] : List Int) (((m : Nat) : Int) - 1)).filter grB) = nest 3 1 fI (keepH grB hs2_14 (lfall (m - ([] : List Int).length) ([] : List Int) (((m : Nat) : Int) - 1))) (allGV ((m : Nat) : Int)) by rw [hv]) (.head) (.nil)) : Keep _ _).ss hw).to_new⟩
  ·
    have hv : allGV n = [] := if_neg (fun h => c7 (by omega))
    refine ct_none fL 27 1 ?_
    refine ct_nest0 3 1 fI ?_
    refine wl_v (ov_not rfl) rfl rfl rfl ?_
    refine wl_nil ?_
    refine ce_then ?_
    refine cw_true rfl ?_
    refine cw_seq ?_
    refine cw_region ?_
    refine wl_v (ov_assign rfl) rfl rfl rfl ?_
    refine wl_nil ?_
    refine ce_then ?_
    refine cw_ret ?_
    refine ce_then_ret ?_
    refine ce_results (v := .slice none (0) (0)) (res1 rfl (rv_t rfl)) (fun w' hw => ?_)
    exact ⟨none, 0, [], (by rw [hv]; exact ⟨Nat.le_refl _, trivial⟩), (by rw [hv] <;> rfl), ((.consE (show row 27 1 none (0) (0) (cells fL ([])) = row 27 1 none ((allGV n).length) (0) (cells fL ([])) by rw [hv] <;> rfl) (.tail .head) (.consE (show nest 3 1 fI ([]) ([]) = nest 3 1 fI ([]) (allGV n) by rw [hv]) (.head) (.nil)) : Keep _ _).ss hw).to_new⟩
set_option maxRecDepth 100000 in
theorem allG1_c (w w0 : World) (Bd : Nat) (F : List Ent) (A : Option Addr) (n : Nat) (c : Nat) (xs : List (Int)) (t : Int) (gn : Nat) (gw : Nat) (go : Nat) (Ao : Option Addr) (co : Nat) (m : Nat) (hs : List Hd) (zss : Mat) (hA : Holds (SS w0 Bd F) A (cells fI xs)) (eA : xs.length = n) (lA : n ≤ c) (hgn : Holds (SS w0 Bd F) (some ⟨gn, 0, none⟩) [.int .i64 (((m : Nat) : Int))]) (hgw : Holds (SS w0 Bd F) (some ⟨gw, 0, none⟩) [.func (.func 73) #[] #[elp (some ⟨gn, 0, none⟩) (0), elp (some ⟨go, 0, none⟩) (0), elp (some ⟨gw, 0, none⟩) (0)]]) (lo : zss.length ≤ co) (hm : xs.length ≤ m ∧ m ≤ 5) (ht : -1 ≤ t ∧ t ≤ 4) (hz : zss.length + (lfall (m - xs.length) xs t).length ≤ 4000) (hss : SS w0 Bd ((blk go [.slice Ao (zss.length) (co)] 50) :: (row 27 1 Ao (zss.length) (co) (cells fL hs)) :: (nest 3 1 fI hs zss) :: F) w) : Calls Try.prog 73 #[.slice A (n) (c), .int .i64 (t), elp (some ⟨gn, 0, none⟩) (0), elp (some ⟨go, 0, none⟩) (0), elp (some ⟨gw, 0, none⟩) (0)] w (Ret fun rv w' => ∃ A5 c5 hs5, ((zss ++ (lfall (m - xs.length) xs t).filter grB).length ≤ c5) ∧ rv = .tuple #[] ∧ SS w0 Bd ((blk go [.slice A5 ((zss ++ (lfall (m - xs.length) xs t).filter grB).length) (c5)] 50) :: (row 27 1 A5 ((zss ++ (lfall (m - xs.length) xs t).filter grB).length) (c5) (cells fL hs5)) :: (nest 3 1 fI hs5 (zss ++ (lfall (m - xs.length) xs t).filter grB)) :: F) w') := by
  subst eA
  refine fn_enter (args := [.slice A (xs.length) (c), .int .i64 (t), elp (some ⟨gn, 0, none⟩) (0), elp (some ⟨go, 0, none⟩) (0), elp (some ⟨gw, 0, none⟩) (0)]) Try.func73 rfl Try.ntmps73 rfl hss ?_
  refine cw_seq ?_
  refine cw_seq ?_
  refine cw_region ?_
  refine wl_v (ov_move rfl) rfl rfl rfl ?_
  refine wl_v (ov_len (sliceI_spec sI27) rfl) rfl rfl rfl ?_
  refine wl_v (ov_load tI3 (Holds.keepF hgn ((.drop (.drop (.drop .refl))))) rfl rfl) rfl rfl rfl ?_
  refine wl_if (ov_eql rfl rfl) rfl rfl rfl (fun c11 => ?_) (fun c11 => ?_)
  ·
    refine wl_nil ?_
    refine ce_then ?_
    refine cw_true rfl ?_
    refine cw_seq ?_
    refine cw_seq ?_
    refine cw_region ?_
    refine wl_v (ov_move rfl) rfl rfl rfl ?_
    refine wl_r (or_call (fv := []) (vs := [.slice A (xs.length) (c)]) (cs := []) en32 rfl rfl (call_v (fun w hw => IsGraphicI_c w A xs.length c xs ((Holds.keepF hA ((.drop (.drop (.drop .refl))))) w hw) rfl lA (by omega)))) rfl rfl (kt_if rfl (fun c13 => ?_) (fun c13 => ?_))
    ·
      have hzz : zss ++ (lfall (m - xs.length) xs t).filter grB = zss ++ [xs] := by rw [show m - xs.length = 0 from by omega]; exact congrArg (zss ++ ·) (by rw [lfall, List.filter_cons_of_pos (show grB xs = true from decide_eq_true c13)]; rfl)
      have hzl : (zss ++ (lfall (m - xs.length) xs t).filter grB).length = zss.length + 1 := by rw [hzz, List.length_append]; rfl
      refine wl_nil ?_
      refine ce_then ?_
      refine cw_true rfl ?_
      refine cw_draw mixO [5] (.cons (.head) (.cons (.tail .head) ((.drop .refl)))) rfl ?_
      refine wg_take (i := 0) rfl (ov_load tI50 (holds_blk (List.Mem.head _)) rfl rfl) rfl rfl rfl (by kernel_rfl) (by kernel_rfl) (by kernel_rfl) (by kernel_rfl) ?_
      refine wg_takep (i := 1) rfl (ov_move rfl) rfl rfl rfl (by kernel_rfl) (by kernel_rfl) (by kernel_rfl) rfl ?_
      refine wg_one (i := 2) (by kernel_rfl) ?_
      refine go_r rfl rfl rfl rfl (or_call (fv := []) (vs := [.slice A (xs.length) (c)]) (cs := []) en53 rfl rfl (call_x2 (fun w hw => cloneC_c w A xs.length c xs ((Holds.keepF hA ((.drop (.drop (.drop .refl))))) w hw) rfl lA (by omega)))) (kt2p rfl (fun A2_16 c2_16 h_16 => ?_))
      refine gk (.cons (.tail .head) (.cons (.tail (.tail .head)) ((.drop (.drop .refl))))) ?_
      refine wg_one (i := 3) (by kernel_rfl) ?_
      refine go_r rfl rfl rfl rfl (or_buildSlice (e := 27) (size := 1) (is := [0]) (vs := [.slice A2_16 (xs.length) (xs.length)]) (cs := cells fL ([(A2_16, xs.length, xs.length)])) rfl rfl rfl (by decide) (fun _ => by kernel_rfl)) (kt1 rfl (fun g17 => ?_))
      refine gk (.cons (.tail (.tail .head)) (.cons (.tail (.tail (.tail .head))) ((.drop (.drop (.drop .refl)))))) ?_
      refine wg_one (i := 4) (by kernel_rfl) ?_
      refine go_r rfl rfl rfl rfl (or_append (c2 := 1) sI50 tI27 rfl (by decide) rfl rfl (.tail (.tail (.tail .head))) (holds_row (List.Mem.head _)) ((by rw [cells_length fL_len]; rfl)) (one_cells fL_one _) cells_append (by omega) (by omega)) (kt2p rfl (fun A18 c18 h18 => ?_))
      refine gk (.cons (.tail (.tail (.tail .head))) (.cons (.tail (.tail (.tail .head))) ((.drop (.drop (.drop .refl)))))) ?_
      refine wg_one (i := 5) (by kernel_rfl) ?_
      refine go_late0 rfl rfl rfl rfl (or_store_blk (vs := [.slice A18 (zss.length + 1) (c18)]) (cs' := [.slice A18 (zss.length + 1) (c18)]) (.tail (.tail (.tail .head))) tI50 rfl rfl rfl rfl (Nat.le_of_ble_eq_true rfl) rfl) (kn0 ?_)
      refine wa_done (by kernel_rfl) ?_
      refine ce_then ?_
      refine cw_ret ?_
      refine ce_then_ret ?_
      refine ct_push (k := xs.length) (.cons (.tail (.tail (.tail (.tail .head)))) (.cons (.tail (.tail (.tail .head))) (.cons (.head) (.cons (.head) (.cons (.head) (.refl)))))) (rfl) (Nat.le_refl _) ?_
      refine ce_results (v := .tuple #[]) (res0 rfl) (fun w' hw => ?_)
      exact ⟨A18, c18, hs ++ [(A2_16, xs.length, xs.length)], (by rw [hzl]; exact h18), rfl, ((.consE (show blk go [.slice A18 (zss.length + 1) (c18)] 50 = blk go [.slice A18 ((zss ++ (lfall (m - xs.length) xs t).filter grB).length) (c18)] 50 by rw [hzl]) (.tail .head) (.consE (show row 27 1 A18 (zss.length + 1) (c18) (cells fL (hs ++ ([(A2_16, xs.length, xs.length)]))) = row 27 1 A18 ((zss ++ (lfall (m - xs.length) xs t).filter grB).length) (c18) (cells fL (hs ++ [(A2_16, xs.length, xs.length)])) by rw [hzl]) (.tail .head) (.consE (show nest 3 1 fI (hs ++ [(A2_16, xs.length, xs.length)]) (zss ++ [xs]) = nest 3 1 fI (hs ++ [(A2_16, xs.length, xs.length)]) (zss ++ (lfall (m - xs.length) xs t).filter grB) by rw [hzz]) (.head) ((.drop .refl)))) : Keep _ _).ss hw)⟩
    ·
      have hzz : zss ++ (lfall (m - xs.length) xs t).filter grB = zss := by rw [show m - xs.length = 0 from by omega, lfall, List.filter_cons_of_neg (fun h9 => c13 (of_decide_eq_true (show grB xs = true from h9)))]; simp
      refine wl_nil ?_
      refine ce_then ?_
      refine cw_false rfl ?_
      refine cw_skip ?_
      refine ce_then ?_
      refine cw_ret ?_
      refine ce_then_ret ?_
      refine ce_results (v := .tuple #[]) (res0 rfl) (fun w' hw => ?_)
      exact ⟨Ao, co, hs, (by rw [hzz]; exact lo), rfl, ((.consE (show blk go [.slice Ao (zss.length) (co)] 50 = blk go [.slice Ao ((zss ++ (lfall (m - xs.length) xs t).filter grB).length) (co)] 50 by rw [hzz]) (.head) (.consE (show row 27 1 Ao (zss.length) (co) (cells fL hs) = row 27 1 Ao ((zss ++ (lfall (m - xs.length) xs t).filter grB).length) (co) (cells fL hs) by rw [hzz]) (.head) (.consE (show nest 3 1 fI hs zss = nest 3 1 fI hs (zss ++ (lfall (m - xs.length) xs t).filter grB) by rw [hzz]) (.head) (.refl))) : Keep _ _).ss hw)⟩
  ·
    refine wl_nil ?_
    refine ce_then ?_
    refine cw_false rfl ?_
    refine cw_skip ?_
    refine ce_then ?_
    refine cw_seq ?_
    have hfe : m - xs.length = (m - xs.length - 1) + 1 := by omega
    refine cw_region ?_
    refine wl_v (ov_move rfl) rfl rfl rfl ?_
    refine wl_v (ov_assign rfl) rfl rfl rfl ?_
    refine wl_nil ?_
    refine ce_then ?_
    refine cw_block ?_
    refine cw_loop4 (fun (j : Nat) (A3 : Option Addr) (c3 : Nat) (hs3 : List Hd) => [(0, .slice A (xs.length) (c)), (4, elp (some ⟨gw, 0, none⟩) (0)), (7, .int .i64 (t - ((j : Nat) : Int)))]) (fun (j : Nat) (A3 : Option Addr) (c3 : Nat) (hs3 : List Hd) => (blk go [.slice A3 ((zss ++ (lfTo (m - xs.length - 1) xs t j).filter grB).length) (c3)] 50) :: (row 27 1 A3 ((zss ++ (lfTo (m - xs.length - 1) xs t j).filter grB).length) (c3) (cells fL hs3)) :: (nest 3 1 fI hs3 (zss ++ (lfTo (m - xs.length - 1) xs t j).filter grB)) :: F) (fun (j : Nat) (A3 : Option Addr) (c3 : Nat) (hs3 : List Hd) => (j : Int) ≤ t + 1 ∧ (zss ++ (lfTo (m - xs.length - 1) xs t j).filter grB).length ≤ c3) (fun (j : Nat) (A3 : Option Addr) (c3 : Nat) (hs3 : List Hd) => 6 - j) 0 Ao co hs ⟨by omega, by simpa [lfTo] using lo⟩ (.cons rfl (.cons rfl (.cons (congrArg (fun z => some (Value.int .i64 z)) (show t = (t - ((0 : Nat) : Int)) from (by omega))) (.nil)))) (.consE (show blk go [.slice Ao (zss.length) (co)] 50 = blk go [.slice Ao ((zss ++ (lfTo (m - xs.length - 1) xs t 0).filter grB).length) (co)] 50 by simp [lfTo]) (.head) (.consE (show row 27 1 Ao (zss.length) (co) (cells fL hs) = row 27 1 Ao ((zss ++ (lfTo (m - xs.length - 1) xs t 0).filter grB).length) (co) (cells fL hs) by simp [lfTo]) (.head) (.consE (show nest 3 1 fI hs zss = nest 3 1 fI hs (zss ++ (lfTo (m - xs.length - 1) xs t 0).filter grB) by simp [lfTo]) (.head) (.refl)))) ?_
    intro R0 j A3 c3 hs3 hk hR0
    obtain ⟨hk1, hk2⟩ := hk
    refine cw_seq ?_
    refine cw_seq ?_
    refine cw_region ?_
    refine wl_v (ov_move rfl) rfl rfl rfl ?_
    refine wl_if (ov_geq rfl rfl) rfl rfl rfl (fun c21 => ?_) (fun c21 => ?_)
    ·
      refine wl_nil ?_
      refine ce_then ?_
      refine cw_true rfl ?_
      refine cw_skip ?_
      refine ce_then ?_
      refine cw_seq ?_
      refine cw_block ?_
      refine cw_draw mixO [] ((.drop (.drop (.drop .refl)))) rfl ?_
      refine wg_take (i := 0) rfl (ov_load tI87 (Holds.keepF hgw (.refl)) rfl rfl) rfl rfl rfl (by kernel_rfl) (by kernel_rfl) (by kernel_rfl) (by kernel_rfl) ?_
      refine wg_takep (i := 1) rfl (ov_move rfl) rfl rfl rfl (by kernel_rfl) (by kernel_rfl) (by kernel_rfl) rfl ?_
      refine wg_takep (i := 3) rfl (ov_move rfl) rfl rfl rfl (by kernel_rfl) (by kernel_rfl) (by kernel_rfl) rfl ?_
      refine wg_takep (i := 6) rfl (ov_move rfl) rfl rfl rfl (by kernel_rfl) (by kernel_rfl) (by kernel_rfl) rfl ?_
      refine wg_two (i := 2) (j := 4) (by kernel_rfl) ?_ ?_
      ·
        have hpt := lfTo_part (f := m - xs.length - 1) (h := xs) (t := t) (j := j) (by omega)
        have hlfe : lfall (m - (xs ++ [t - ((j : Nat) : Int)]).length) (xs ++ [t - ((j : Nat) : Int)]) (t - ((j : Nat) : Int)) = lfall (m - xs.length - 1) (xs ++ [t - ((j : Nat) : Int)]) (t - ((j : Nat) : Int)) := by rw [show m - (xs ++ [t - ((j : Nat) : Int)]).length = m - xs.length - 1 from by rw [List.length_append]; simp; omega]
        rw [← hlfe] at hpt
        have hfl := List.length_filter_le grB (lfTo (m - xs.length - 1) xs t j)
        have hzj : (zss ++ (lfTo (m - xs.length - 1) xs t j).filter grB).length = zss.length + ((lfTo (m - xs.length - 1) xs t j).filter grB).length := List.length_append ..
        have hfs : zss ++ (lfTo (m - xs.length - 1) xs t (j + 1)).filter grB = (zss ++ (lfTo (m - xs.length - 1) xs t j).filter grB) ++ (lfall (m - (xs ++ [t - ((j : Nat) : Int)]).length) (xs ++ [t - ((j : Nat) : Int)]) (t - ((j : Nat) : Int))).filter grB := by rw [lfTo_succ, hlfe, List.filter_append, List.append_assoc]
        rw [hfe] at hz
        refine go_r rfl rfl rfl rfl (or_call (fv := []) (vs := [.slice A (xs.length) (c)]) (cs := []) en53 rfl rfl (call_x2 (fun w hw => cloneC_c w A xs.length c xs ((Holds.keepF hA ((.drop (.drop (.drop .refl))))) w hw) rfl lA (by omega)))) (kt2p rfl (fun A2_26 c2_26 h_26 => ?_))
        refine gk ((.drop (.drop (.drop (.drop .refl))))) ?_
        refine wg_one (i := 4) (by kernel_rfl) ?_
        refine go_r rfl rfl rfl rfl (or_buildSlice (e := 3) (size := 1) (is := [0]) (vs := [.int .i64 (t - ((j : Nat) : Int))]) (cs := cells fI ([t - ((j : Nat) : Int)])) rfl rfl rfl (by decide) (fun _ => by kernel_rfl)) (kt1 rfl (fun g28 => ?_))
        refine gk ((.drop (.drop (.drop (.drop (.drop .refl)))))) ?_
        refine wg_one (i := 5) (by kernel_rfl) ?_
        refine go_r rfl rfl rfl rfl (or_append_full (c2 := 1) sI27 tI3 rfl (by decide) rfl rfl (holds_row (List.Mem.tail _ (List.Mem.head _))) ((by rw [cells_length fI_len])) (holds_row (List.Mem.head _)) ((by rw [cells_length fI_len]; rfl)) (one_cells fI_one _) cells_append (by first | decide | omega) (by omega) (by omega)) (kt2p rfl (fun A29 c29 h29 => ?_))
        refine gk ((.drop (.drop (.drop (.drop (.drop (.drop .refl))))))) ?_
        refine wg_one (i := 7) (by kernel_rfl) ?_
        refine go_r rfl rfl rfl rfl (or_call (fv := []) (vs := [.slice A29 (xs.length + 1) (c29), .int .i64 (t - ((j : Nat) : Int))]) (cs := [elp (some ⟨gn, 0, none⟩) (0), elp (some ⟨go, 0, none⟩) (0), elp (some ⟨gw, 0, none⟩) (0)]) en73 rfl rfl (call_o (.cons (.tail (.tail (.tail .head))) (.cons (.tail (.tail (.tail .head))) (.cons (.tail (.tail (.tail .head))) (.cons (.head) (.cons (.head) (.cons (.head) (.refl))))))) (fun w hw => allG1_c w _ _ _ A29 (xs.length + 1) c29 (xs ++ ([t - ((j : Nat) : Int)])) (t - ((j : Nat) : Int)) gn gw go A3 c3 m hs3 (zss ++ (lfTo (m - xs.length - 1) xs t j).filter grB) (holds_row (List.Mem.head _)) (by rw [List.length_append]; rfl) h29 (Holds.keepF hgn ((.drop (.drop (.drop .refl))))) (Holds.keepF hgw ((.drop (.drop (.drop .refl))))) hk2 (by rw [List.length_append]; simp; omega) (by omega) (by rw [hzj]; omega) hw))) (kt3p rfl (fun A5_31 c5_31 hs5_31 h_31 => ?_))
        refine gk ((.drop (.drop (.drop (.drop (.drop (.drop .refl))))))) ?_
        refine wg_done (by kernel_rfl) ?_
        refine ce_block ?_
        refine ce_then ?_
        refine cw_region ?_
        refine wl_v (ov_move rfl) rfl rfl rfl ?_
        refine wl_v (ov_sub (r := (t - ((j : Nat) : Int)) - 1) rfl rfl rfl (by omega)) rfl rfl rfl ?_
        refine wl_v (ov_assign rfl) rfl rfl rfl ?_
        refine wl_nil ?_
        exact fun ac_ w_ hs_ => hR0 (j + 1) A5_31 c5_31 hs5_31 ⟨by omega, by rw [hfs]; exact h_31⟩ (by omega) ac_ w_ (hs_.weaken (.cons rfl (.cons rfl (.cons (congrArg (fun z => some (Value.int .i64 z)) (show ((t - ((j : Nat) : Int)) - 1) = (t - (((j + 1) : Nat) : Int)) from (by omega))) (.nil)))) (.consE (show blk go [.slice A5_31 (((zss ++ (lfTo (m - xs.length - 1) xs t j).filter grB) ++ (lfall (m - (xs ++ ([t - ((j : Nat) : Int)])).length) (xs ++ ([t - ((j : Nat) : Int)])) (t - ((j : Nat) : Int))).filter grB).length) (c5_31)] 50 = blk go [.slice A5_31 ((zss ++ (lfTo (m - xs.length - 1) xs t (j + 1)).filter grB).length) (c5_31)] 50 by rw [hfs]) (.head) (.consE (show row 27 1 A5_31 (((zss ++ (lfTo (m - xs.length - 1) xs t j).filter grB) ++ (lfall (m - (xs ++ ([t - ((j : Nat) : Int)])).length) (xs ++ ([t - ((j : Nat) : Int)])) (t - ((j : Nat) : Int))).filter grB).length) (c5_31) (cells fL hs5_31) = row 27 1 A5_31 ((zss ++ (lfTo (m - xs.length - 1) xs t (j + 1)).filter grB).length) (c5_31) (cells fL hs5_31) by rw [hfs]) (.head) (.consE (show nest 3 1 fI hs5_31 ((zss ++ (lfTo (m - xs.length - 1) xs t j).filter grB) ++ (lfall (m - (xs ++ ([t - ((j : Nat) : Int)])).length) (xs ++ ([t - ((j : Nat) : Int)])) (t - ((j : Nat) : Int))).filter grB) = nest 3 1 fI hs5_31 (zss ++ (lfTo (m - xs.length - 1) xs t (j + 1)).filter grB) by rw [hfs]) (.head) ((.drop (.drop (.drop .refl))))))))
      ·
        refine go_r rfl rfl rfl rfl (or_buildSlice (e := 3) (size := 1) (is := [0]) (vs := [.int .i64 (t - ((j : Nat) : Int))]) (cs := cells fI ([t - ((j : Nat) : Int)])) rfl rfl rfl (by decide) (fun _ => by kernel_rfl)) (kt1 rfl (fun g28 => ?_))
        refine gk ((.drop (.drop (.drop (.drop .refl))))) ?_
        refine wg_one (i := 2) (by kernel_rfl) ?_
        have hpt := lfTo_part (f := m - xs.length - 1) (h := xs) (t := t) (j := j) (by omega)
        have hlfe : lfall (m - (xs ++ [t - ((j : Nat) : Int)]).length) (xs ++ [t - ((j : Nat) : Int)]) (t - ((j : Nat) : Int)) = lfall (m - xs.length - 1) (xs ++ [t - ((j : Nat) : Int)]) (t - ((j : Nat) : Int)) := by rw [show m - (xs ++ [t - ((j : Nat) : Int)]).length = m - xs.length - 1 from by rw [List.length_append]; simp; omega]
        rw [← hlfe] at hpt
        have hfl := List.length_filter_le grB (lfTo (m - xs.length - 1) xs t j)
        have hzj : (zss ++ (lfTo (m - xs.length - 1) xs t j).filter grB).length = zss.length + ((lfTo (m - xs.length - 1) xs t j).filter grB).length := List.length_append ..
        have hfs : zss ++ (lfTo (m - xs.length - 1) xs t (j + 1)).filter grB = (zss ++ (lfTo (m - xs.length - 1) xs t j).filter grB) ++ (lfall (m - (xs ++ [t - ((j : Nat) : Int)]).length) (xs ++ [t - ((j : Nat) : Int)]) (t - ((j : Nat) : Int))).filter grB := by rw [lfTo_succ, hlfe, List.filter_append, List.append_assoc]
        rw [hfe] at hz
        refine go_r rfl rfl rfl rfl (or_call (fv := []) (vs := [.slice A (xs.length) (c)]) (cs := []) en53 rfl rfl (call_x2 (fun w hw => cloneC_c w A xs.length c xs ((Holds.keepF hA ((.drop (.drop (.drop (.drop .refl)))))) w hw) rfl lA (by omega)))) (kt2p rfl (fun A2_26 c2_26 h_26 => ?_))
        refine gk ((.drop (.drop (.drop (.drop (.drop .refl)))))) ?_
        refine wg_one (i := 5) (by kernel_rfl) ?_
        refine go_r rfl rfl rfl rfl (or_append_full (c2 := 1) sI27 tI3 rfl (by decide) rfl rfl (holds_row (List.Mem.head _)) ((by rw [cells_length fI_len])) (holds_row (List.Mem.tail _ (List.Mem.head _))) ((by rw [cells_length fI_len]; rfl)) (one_cells fI_one _) cells_append (by first | decide | omega) (by omega) (by omega)) (kt2p rfl (fun A29 c29 h29 => ?_))
        refine gk ((.drop (.drop (.drop (.drop (.drop (.drop .refl))))))) ?_
        refine wg_one (i := 7) (by kernel_rfl) ?_
        refine go_r rfl rfl rfl rfl (or_call (fv := []) (vs := [.slice A29 (xs.length + 1) (c29), .int .i64 (t - ((j : Nat) : Int))]) (cs := [elp (some ⟨gn, 0, none⟩) (0), elp (some ⟨go, 0, none⟩) (0), elp (some ⟨gw, 0, none⟩) (0)]) en73 rfl rfl (call_o (.cons (.tail (.tail (.tail .head))) (.cons (.tail (.tail (.tail .head))) (.cons (.tail (.tail (.tail .head))) (.cons (.head) (.cons (.head) (.cons (.head) (.refl))))))) (fun w hw => allG1_c w _ _ _ A29 (xs.length + 1) c29 (xs ++ ([t - ((j : Nat) : Int)])) (t - ((j : Nat) : Int)) gn gw go A3 c3 m hs3 (zss ++ (lfTo (m - xs.length - 1) xs t j).filter grB) (holds_row (List.Mem.head _)) (by rw [List.length_append]; rfl) h29 (Holds.keepF hgn ((.drop (.drop (.drop .refl))))) (Holds.keepF hgw ((.drop (.drop (.drop .refl))))) hk2 (by rw [List.length_append]; simp; omega) (by omega) (by rw [hzj]; omega) hw))) (kt3p rfl (fun A5_31 c5_31 hs5_31 h_31 => ?_))
        refine gk ((.drop (.drop (.drop (.drop (.drop (.drop .refl))))))) ?_
        refine wg_done (by kernel_rfl) ?_
        refine ce_block ?_
        refine ce_then ?_
        refine cw_region ?_
        refine wl_v (ov_move rfl) rfl rfl rfl ?_
        refine wl_v (ov_sub (r := (t - ((j : Nat) : Int)) - 1) rfl rfl rfl (by omega)) rfl rfl rfl ?_
        refine wl_v (ov_assign rfl) rfl rfl rfl ?_
        refine wl_nil ?_
        exact fun ac_ w_ hs_ => hR0 (j + 1) A5_31 c5_31 hs5_31 ⟨by omega, by rw [hfs]; exact h_31⟩ (by omega) ac_ w_ (hs_.weaken (.cons rfl (.cons rfl (.cons (congrArg (fun z => some (Value.int .i64 z)) (show ((t - ((j : Nat) : Int)) - 1) = (t - (((j + 1) : Nat) : Int)) from (by omega))) (.nil)))) (.consE (show blk go [.slice A5_31 (((zss ++ (lfTo (m - xs.length - 1) xs t j).filter grB) ++ (lfall (m - (xs ++ ([t - ((j : Nat) : Int)])).length) (xs ++ ([t - ((j : Nat) : Int)])) (t - ((j : Nat) : Int))).filter grB).length) (c5_31)] 50 = blk go [.slice A5_31 ((zss ++ (lfTo (m - xs.length - 1) xs t (j + 1)).filter grB).length) (c5_31)] 50 by rw [hfs]) (.head) (.consE (show row 27 1 A5_31 (((zss ++ (lfTo (m - xs.length - 1) xs t j).filter grB) ++ (lfall (m - (xs ++ ([t - ((j : Nat) : Int)])).length) (xs ++ ([t - ((j : Nat) : Int)])) (t - ((j : Nat) : Int))).filter grB).length) (c5_31) (cells fL hs5_31) = row 27 1 A5_31 ((zss ++ (lfTo (m - xs.length - 1) xs t (j + 1)).filter grB).length) (c5_31) (cells fL hs5_31) by rw [hfs]) (.head) (.consE (show nest 3 1 fI hs5_31 ((zss ++ (lfTo (m - xs.length - 1) xs t j).filter grB) ++ (lfall (m - (xs ++ ([t - ((j : Nat) : Int)])).length) (xs ++ ([t - ((j : Nat) : Int)])) (t - ((j : Nat) : Int))).filter grB) = nest 3 1 fI hs5_31 (zss ++ (lfTo (m - xs.length - 1) xs t (j + 1)).filter grB) by rw [hfs]) (.head) ((.drop (.drop (.drop .refl))))))))
    ·
      have hzz : zss ++ (lfall (m - xs.length) xs t).filter grB = zss ++ (lfTo (m - xs.length - 1) xs t j).filter grB := by rw [hfe, lfall_succ, show (t + 1).toNat = j from by omega]; rfl
      refine wl_nil ?_
      refine ce_then ?_
      refine cw_false rfl ?_
      refine cw_exit ?_
      refine ce_then_exit ?_
      refine ce_then_exit ?_
      refine ce_hit ?_
      refine ce_results_n (v := .tuple #[]) (res0 rfl) (fun w' hw => ?_)
      exact ⟨A3, c3, hs3, (by rw [hzz]; exact hk2), rfl, ((.consE (show blk go [.slice A3 ((zss ++ (lfTo (m - xs.length - 1) xs t j).filter grB).length) (c3)] 50 = blk go [.slice A3 ((zss ++ (lfall (m - xs.length) xs t).filter grB).length) (c3)] 50 by rw [hzz]) (.head) (.consE (show row 27 1 A3 ((zss ++ (lfTo (m - xs.length - 1) xs t j).filter grB).length) (c3) (cells fL hs3) = row 27 1 A3 ((zss ++ (lfall (m - xs.length) xs t).filter grB).length) (c3) (cells fL hs3) by rw [hzz]) (.head) (.consE (show nest 3 1 fI hs3 (zss ++ (lfTo (m - xs.length - 1) xs t j).filter grB) = nest 3 1 fI hs3 (zss ++ (lfall (m - xs.length) xs t).filter grB) by rw [hzz]) (.head) (.refl))) : Keep _ _).ss hw)⟩
termination_by m - xs.length
decreasing_by all_goals (simp only [List.length_append, List.length_cons, List.length_nil]; omega)
set_option maxRecDepth 100000 in
theorem AllGI_c (w : World) (n : Int)  : Calls Try.prog 29 #[.int .i64 (n)] w (Ret fun rv w' => ∃ A2 k2 c2 hs2, ((allGV n).length ≤ k2) ∧ rv = .slice A2 ((allGV n).length) (k2) ∧ New w w' [row 27 1 A2 ((allGV n).length) (c2) (cells fL hs2), nest 3 1 fI hs2 (allGV n)]) := by
  refine fn_enter (args := [.int .i64 (n)]) Try.func29 rfl Try.ntmps29 rfl (SS.start w) ?_
  refine cw_seq ?_
  refine cw_region ?_
  refine wl_r (or_box rfl rfl) rfl rfl (kt1 rfl (fun g1 => ?_))
  refine wl_v (ov_assign rfl) rfl rfl rfl ?_
  refine wl_nil ?_
  refine ce_then ?_
  refine cw_seq ?_
  refine cw_seq ?_
  refine cw_region ?_
  refine wl_v (ov_load tI3 (holds_blk (List.Mem.head _)) rfl rfl) rfl rfl rfl ?_
  refine wl_r (or_call (fv := []) (vs := [.int .i64 (n), .int .i64 (0), .int .i64 (5)]) (cs := []) en58 rfl rfl (call_v (fun w hw => in_c w n 0 5 ))) rfl rfl (kt_if rfl (fun c6 => ?_) (fun c6 => ?_))
  ·
    obtain ⟨m, rfl⟩ := Int.eq_ofNat_of_zero_le (show 0 ≤ n from c6.1)
    have hv : allGV ((m : Nat) : Int) = (lfall (m - ([] : List Int).length) ([] : List Int) (((m : Nat) : Int) - 1)).filter grB := (if_pos (by omega)).trans (by rw [Int.toNat_natCast]; rfl)
    have hlb := lfall_bd (f := m - ([] : List Int).length) (h := ([] : List Int)) (t := ((m : Nat) : Int) - 1) (by omega) (by simp; omega)
    refine wl_v (ov_not rfl) rfl rfl rfl ?_
    refine wl_nil ?_
    refine ce_then ?_
    refine cw_false rfl ?_
    refine cw_skip ?_
    refine ce_then ?_
    refine cw_seq ?_
    refine cw_region ?_
    refine wl_r (or_alloc tI50 rfl) rfl rfl (kt1 rfl (fun g3 => ?_))
    refine wl_nil ?_
    refine ce_then ?_
    refine cw_seq ?_
    refine ct_none fL 27 1 ?_
    refine ct_nest0 3 1 fI ?_
    refine cw_region ?_
    refine wl_r (or_alloc tI87 rfl) rfl rfl (kt1 rfl (fun g4 => ?_))
    refine wl_nil ?_
    refine ce_then ?_
    refine cw_seq ?_
    refine cw_region ?_
    refine wl_v (ov_makeFunc (vs := #[elp (some ⟨g1, 0, none⟩) (0), elp (some ⟨g3, 0, none⟩) (0), elp (some ⟨g4, 0, none⟩) (0)]) rfl) rfl rfl rfl ?_
    refine wl_r0 (or_store_blk (vs := [.func (.func 73) #[] #[elp (some ⟨g1, 0, none⟩) (0), elp (some ⟨g3, 0, none⟩) (0), elp (some ⟨g4, 0, none⟩) (0)]]) (cs' := [.func (.func 73) #[] #[elp (some ⟨g1, 0, none⟩) (0), elp (some ⟨g3, 0, none⟩) (0), elp (some ⟨g4, 0, none⟩) (0)]]) (.head) tI87 rfl rfl rfl rfl (Nat.le_of_ble_eq_true rfl) rfl) rfl rfl (kn0 ?_)
    refine wl_nil ?_
    refine ce_then ?_
    refine cw_seq ?_
    refine cw_region ?_
    refine wl_v (ov_load tI87 (holds_blk (List.Mem.head _)) rfl rfl) rfl rfl rfl ?_
    refine wl_v (ov_load tI3 (holds_blk (List.Mem.tail _ (List.Mem.tail _ (List.Mem.tail _ (List.Mem.tail _ (List.Mem.head _)))))) rfl rfl) rfl rfl rfl ?_
    refine wl_v (ov_sub (r := ((m : Nat) : Int) - 1) rfl rfl rfl (by omega)) rfl rfl rfl ?_
    refine wl_r (or_call (fv := []) (vs := [.slice none (0) (0), .int .i64 (((m : Nat) : Int) - 1)]) (cs := [elp (some ⟨g1, 0, none⟩) (0), elp (some ⟨g3, 0, none⟩) (0), elp (some ⟨g4, 0, none⟩) (0)]) en73 rfl rfl (call_o (.cons (.tail (.tail (.tail .head))) (.cons (.tail (.tail .head)) (.cons (.tail .head) (.cons (.head) (.cons (.head) (.nil)))))) (fun w hw => allG1_c w _ _ _ none 0 0 ([] : List Int) (((m : Nat) : Int) - 1) g1 g4 g3 none 0 m ([]) ([]) (fun _ _ => At.nil) rfl (Nat.le_refl _) (holds_blk (List.Mem.tail _ (List.Mem.head _))) (holds_blk (List.Mem.head _)) (Nat.le_refl _) (by simp; omega) (by omega) (by simp only [List.length_nil, Nat.zero_add] at *; omega) hw))) rfl rfl (kt3p rfl (fun A5_12 c5_12 hs5_12 h_12 => ?_))
    have hzv : ([] : Mat) ++ (lfall (m - ([] : List Int).length) ([] : List Int) (((m : Nat) : Int) - 1)).filter grB = allGV ((m : Nat) : Int) := by rw [hv]; exact List.nil_append _
    rw [hzv] at h_12
    refine ct_keep (L' := [(0, .int .i64 (((m : Nat) : Int))), (1, elp (some ⟨g1, 0, none⟩) (0)), (2, .slice none (0) (0)), (3, elp (some ⟨g3, 0, none⟩) (0)), (4, elp (some ⟨g4, 0, none⟩) (0)), (5, .int .i64 (((m : Nat) : Int))), (6, .bool true), (7, .bool false), (8, .func (.func 73) #[] #[elp (some ⟨g1, 0, none⟩) (0), elp (some ⟨g3, 0, none⟩) (0), elp (some ⟨g4, 0, none⟩) (0)]), (9, .func (.func 73) #[] #[elp (some ⟨g1, 0, none⟩) (0), elp (some ⟨g3, 0, none⟩) (0), elp (some ⟨g4, 0, none⟩) (0)]), (10, .int .i64 (((m : Nat) : Int))), (11, .int .i64 (((m : Nat) : Int) - 1)), (12, .tuple #[])]) (.cons rfl (.cons rfl (.cons rfl (.cons rfl (.cons rfl (.cons rfl (.cons rfl (.cons rfl (.cons rfl (.cons rfl (.cons rfl (.cons rfl (.cons rfl (.nil)))))))))))))) (.consE (show blk g3 [.slice A5_12 ((([]) ++ (lfall (m - ([] : List Int).length) ([] : List Int) (((m : Nat) : Int) - 1)).filter grB).length) (c5_12)] 50 = blk g3 [.slice A5_12 ((allGV ((m : Nat) : Int)).length) (c5_12)] 50 by rw [hzv]) (.head) (.cons (.head) (.cons (.head) (.cons (.head) (.cons (.head) (.nil)))))) ?_
    refine ct_keep (L' := [(0, .int .i64 (((m : Nat) : Int))), (1, elp (some ⟨g1, 0, none⟩) (0)), (2, .slice none (0) (0)), (3, elp (some ⟨g3, 0, none⟩) (0)), (4, elp (some ⟨g4, 0, none⟩) (0)), (5, .int .i64 (((m : Nat) : Int))), (6, .bool true), (7, .bool false), (8, .func (.func 73) #[] #[elp (some ⟨g1, 0, none⟩) (0), elp (some ⟨g3, 0, none⟩) (0), elp (some ⟨g4, 0, none⟩) (0)]), (9, .func (.func 73) #[] #[elp (some ⟨g1, 0, none⟩) (0), elp (some ⟨g3, 0, none⟩) (0), elp (some ⟨g4, 0, none⟩) (0)]), (10, .int .i64 (((m : Nat) : Int))), (11, .int .i64 (((m : Nat) : Int) - 1)), (12, .tuple #[])]) (.cons rfl (.cons rfl (.cons rfl (.cons rfl (.cons rfl (.cons rfl (.cons rfl (.cons rfl (.cons rfl (.cons rfl (.cons rfl (.cons rfl (.cons rfl (.nil)))))))))))))) (.cons (.head) (.consE (show row 27 1 A5_12 ((([]) ++ (lfall (m - ([] : List Int).length) ([] : List Int) (((m : Nat) : Int) - 1)).filter grB).length) (c5_12) (cells fL hs5_12) = row 27 1 A5_12 ((allGV ((m : Nat) : Int)).length) (c5_12) (cells fL hs5_12) by rw [hzv]) (.head) (.cons (.head) (.cons (.head) (.cons (.head) (.nil)))))) ?_
    refine ct_keep (L' := [(0, .int .i64 (((m : Nat) : Int))), (1, elp (some ⟨g1, 0, none⟩) (0)), (2, .slice none (0) (0)), (3, elp (some ⟨g3, 0, none⟩) (0)), (4, elp (some ⟨g4, 0, none⟩) (0)), (5, .int .i64 (((m : Nat) : Int))), (6, .bool true), (7, .bool false), (8, .func (.func 73) #[] #[elp (some ⟨g1, 0, none⟩) (0), elp (some ⟨g3, 0, none⟩) (0), elp (some ⟨g4, 0, none⟩) (0)]), (9, .func (.func 73) #[] #[elp (some ⟨g1, 0, none⟩) (0), elp (some ⟨g3, 0, none⟩) (0), elp (some ⟨g4, 0, none⟩) (0)]), (10, .int .i64 (((m : Nat) : Int))), (11, .int .i64 (((m : Nat) : Int) - 1)), (12, .tuple #[])]) (.cons rfl (.cons rfl (.cons rfl (.cons rfl (.cons rfl (.cons rfl (.cons rfl (.cons rfl (.cons rfl (.cons rfl (.cons rfl (.cons rfl (.cons rfl (.nil)))))))))))))) (.cons (.head) (.cons (.head) (.consE (show nest 3 1 fI hs5_12 (([]) ++ (lfall (m - ([] : List Int).length) ([] : List Int) (((m : Nat) : Int) - 1)).filter grB) = nest 3 1 fI hs5_12 (allGV ((m : Nat) : Int)) by rw [hzv]) (.head) (.cons (.head) (.cons (.head) (.nil)))))) ?_
    refine wl_nil ?_
    refine ce_then ?_
    refine cw_seq ?_
    refine cw_region ?_
    refine wl_v (ov_load tI50 (holds_blk (List.Mem.head _)) rfl rfl) rfl rfl rfl ?_
    refine ct_fact (nest_facts (List.Mem.tail _ (List.Mem.tail _ (List.Mem.head _)))) (fun hnfz => ?_)
    refine wl_r (or_call (fv := []) (vs := [.slice A5_12 ((allGV ((m : Nat) : Int)).length) (c5_12)]) (cs := []) en74 rfl rfl (call_v (fun w hw => clipL_c w A5_12 ((allGV ((m : Nat) : Int)).length) c5_12 hs5_12 ((holds_row (List.Mem.tail _ (List.Mem.head _))) w hw) hnfz.1 h_12))) rfl rfl (kt0 rfl ?_)
    refine wl_v (ov_assign rfl) rfl rfl rfl ?_
    refine wl_nil ?_
    refine ce_then ?_
    refine cw_ret ?_
    refine ce_results (v := .slice A5_12 (((allGV ((m : Nat) : Int)).length)) (((allGV ((m : Nat) : Int)).length))) (res1 rfl (rv_t rfl)) (fun w' hw => ?_)
    exact ⟨A5_12, (allGV ((m : Nat) : Int)).length, c5_12, hs5_12, (Nat.le_refl _), rfl, ((.cons (.tail .head) (.cons (.tail .head) (.nil)) : Keep _ _).ss hw).to_new⟩
  ·
    have hv : allGV n = [] := if_neg (fun h => c6 (by omega))
    refine ct_none fL 27 1 ?_
    refine ct_nest0 3 1 fI ?_
    refine wl_v (ov_not rfl) rfl rfl rfl ?_
    refine wl_nil ?_
    refine ce_then ?_
    refine cw_true rfl ?_
    refine cw_seq ?_
    refine cw_region ?_
    refine wl_v (ov_assign rfl) rfl rfl rfl ?_
    refine wl_nil ?_
    refine ce_then ?_
    refine cw_ret ?_
    refine ce_then_ret ?_
    refine ce_results (v := .slice none (0) (0)) (res1 rfl (rv_t rfl)) (fun w' hw => ?_)
    exact ⟨none, 0, 0, [], (by rw [hv]; exact Nat.le_refl _), (by rw [hv] <;> rfl), ((.consE (show row 27 1 none (0) (0) (cells fL ([])) = row 27 1 none ((allGV n).length) (0) (cells fL ([])) by rw [hv] <;> rfl) (.tail .head) (.consE (show nest 3 1 fI ([]) ([]) = nest 3 1 fI ([]) (allGV n) by rw [hv]) (.head) (.nil)) : Keep _ _).ss hw).to_new⟩
set_option maxRecDepth 100000 in
theorem DrawAllGraphic_c (w : World) (Ar : Option Addr) (nr : Nat) (cr : Nat) (bs : List (Nat)) (hAr : At w Ar (cells fY bs)) (eAr : bs.length = nr) (lAr : nr ≤ cr) (hb : ∀ x ∈ bs, x < 256) : Calls Try.prog 28 #[.slice Ar (nr) (cr)] w (Ret fun rv w' => ∃ v, (-1 ≤ v ∧ v ≤ 6) ∧ rv = .int .i64 (v) ∧ New w w' []) := by
  have oAr := hAr.atB
  subst eAr
  refine fn_enter (args := [.slice Ar (bs.length) (cr)]) Try.func28 rfl Try.ntmps28 rfl (SS.start w) ?_
  refine cw_seq ?_
  refine cw_region ?_
  refine wl_v (ov_assign rfl) rfl rfl rfl ?_
  refine wl_nil ?_
  refine ce_then ?_
  refine cw_seq ?_
  refine cw_region ?_
  refine wl_v (ov_move rfl) rfl rfl rfl ?_
  refine wl_r (or_call (fv := []) (vs := [.slice Ar (bs.length) (cr)]) (cs := []) en42 rfl rfl (call_x2 (fun w hw => newReader_c w Ar bs.length cr bs ((holds_old oAr) w hw) rfl lAr))) rfl rfl (kt2p rfl (fun g_5 n2_5 h_5 => ?_))
  refine wl_v (ov_assign rfl) rfl rfl rfl ?_
  refine wl_nil ?_
  refine ce_then ?_
  refine cw_seq ?_
  refine cw_region ?_
  refine wl_v (ov_move rfl) rfl rfl rfl ?_
  refine wl_r (or_buildSlice (e := 3) (size := 1) (is := [0, 1, 2, 3, 4, 5, 6, 7]) (vs := [.int .i64 (4), .int .i64 (3), .int .i64 (5), .int .i64 (2), .int .i64 (1), .int .i64 (0), .int .i64 (6), .int .i64 (-1)]) (cs := cells fI ([4, 3, 5, 2, 1, 0, 6, -1])) rfl rfl rfl (by decide) (fun _ => by kernel_rfl)) rfl rfl (kt1 rfl (fun g7 => ?_))
  refine wl_r (or_call (fv := []) (vs := [elp (some ⟨g_5, 0, none⟩) (0), .slice (some ⟨g7, 0, none⟩) (8) (8)]) (cs := []) en72 rfl rfl (call_o (.cons (.tail .head) (.cons (.head) (.nil))) (fun w hw => one_c w _ _ _ (some ⟨g7, 0, none⟩) 8 8 ([4, 3, 5, 2, 1, 0, 6, -1]) g_5 Ar n2_5 cr (bs.take n2_5) 0 (holds_row (List.Mem.head _)) (by first | rfl | assumption | (simp; done) | (simp; omega)) (Nat.le_refl _) (holds_takeC (k := n2_5) fY_len (holds_old oAr)) (by rw [List.length_take]; omega) (by omega) ⟨by omega, fun x hx => hb x (List.mem_of_mem_take hx), by omega⟩ (by decide) hw))) rfl rfl (kt1p rfl (fun v_8 h_8 => ?_))
  refine wl_v (ov_assign rfl) rfl rfl rfl ?_
  refine wl_nil ?_
  refine ce_then ?_
  refine cw_ret ?_
  refine ce_results (v := .int .i64 (v_8)) (res1 rfl (rv_t rfl)) (fun w' hw => ?_)
  exact ⟨v_8, (by simp at h_8; omega), rfl, ((.nil : Keep _ _).ss hw).to_new⟩
end Go.Proofs.Ythbfgkeoojghoaa.W36
