/- Walks of functions of the given program: each returns what its Lean function says and leaves the memory that was there as it was. Conditions: those of each theorem. -/
import Derived.Test.YthllnilddbdmaaaDoorSm
import Derived.Test.YthllnilddbdmaaaDoorProg
import Derived.Test.YthllnilddbdmaaaDoorPl
import Derived.Test.YthllnilddbdmaaaDoorPo
import Derived.Test.YthllnilddbdmaaaDoorPd
import Derived.Test.YthllnilddbdmaaaDoorPe
import Derived.Test.YthllnilddbdmaaaDoorPh
import Derived.Test.YthllnilddbdmaaaDoorPm
import Derived.Test.YthllnilddbdmaaaDoorPc
import Derived.Test.YthllnilddbdmaaaDoorPs
import Derived.Test.YthllnilddbdmaaaDoorPt
import Derived.Test.YthllnilddbdmaaaDoorPu
import Derived.Test.YthllnilddbdmaaaDoorPv
import Derived.Test.YthllnilddbdmaaaDoorPw
import Derived.Test.YthllnilddbdmaaaDoorPx
import Derived.Test.YthllnilddbdmaaaDoorPy
import Derived.Test.YthllnilddbdmaaaDoorPz
import Derived.Test.YthllnilddbdmaaaDoorPr
import Derived.Test.YthllnilddbdmaaaDoorPa
import Derived.Test.YthllnilddbdmaaaDoorPn
import Derived.Test.YthllnilddbdmaaaDoorPj
import Derived.Test.YthllnilddbdmaaaDoorPq
import Derived.Test.YthllnilddbdmaaaDoorSs
import Derived.Test.YthllnilddbdmaaaDoorPk
import Derived.Test.YthllnilddbdmaaaDoorSb
import Derived.Test.YthllnilddbdmaaaDoorT
import Derived.Test.YthllnilddbdmaaaDoorW2
import Derived.KernelRfl
namespace Go.Proofs.YthllnilddbdmaaaDoor.W53
open Go.Sx Go.RowKit Go.Proofs.YthllnilddbdmaaaDoor.T Go.Proofs.YthllnilddbdmaaaDoor.W2
open Go.Plain
set_option linter.unusedVariables false
set_option maxRecDepth 100000 in
theorem readDigits_c (w : World) (s : ByteArray) (hs : s.size ≤ 1000) : Calls Tryd.prog 35 #[.string (s)] w (Ret fun rv w' => ∃ A2 c2, (True) ∧ rv = .slice A2 (s.size) (s.size) ∧ New w w' [row 3 1 A2 (s.size) (c2) (cells fI (rdI s))]) := by
  refine fn_enter (args := [.string (s)]) Tryd.func35 rfl Tryd.ntmps35 rfl (SS.start w) ?_
  refine cw_seq ?_
  refine cw_region ?_
  refine wl_v (ov_assign rfl) rfl rfl rfl ?_
  refine wl_nil ?_
  refine ce_then ?_
  refine cw_seq ?_
  refine cw_region ?_
  refine wl_v (ov_assign rfl) rfl rfl rfl ?_
  refine wl_nil ?_
  refine ce_then ?_
  refine cw_seq ?_
  refine cw_seq ?_
  refine ct_none fI 3 1 ?_
  refine cw_region ?_
  refine wl_v (ov_move rfl) rfl rfl rfl ?_
  refine wl_v (ov_lens uI9 rfl) rfl rfl rfl ?_
  refine wl_v (ov_move rfl) rfl rfl rfl ?_
  refine wl_nil ?_
  refine ce_then ?_
  refine cw_block ?_
  refine cw_loop3 (fun (k : Nat) (A3 : Option Addr) (c3 : Nat) => [(0, .string (s)), (2, .slice none (0) (0)), (7, .int .i64 (((s.size : Nat) : Int))), (3, .slice A3 (k) (c3)), (8, .int .i64 (((k : Nat) : Int)))]) (fun (k : Nat) (A3 : Option Addr) (c3 : Nat) => [row 3 1 A3 (k) (c3) (cells fI ((rdI s).take k))]) (fun (k : Nat) (A3 : Option Addr) (c3 : Nat) => k ≤ s.size ∧ k ≤ c3) (fun (k : Nat) (A3 : Option Addr) (c3 : Nat) => s.size - k) 0 none 0 ⟨by omega, Nat.le_refl _⟩ (.cons rfl (.cons rfl (.cons rfl (.cons rfl (.cons (congrArg (fun z => some (Value.int .i64 z)) (show 0 = ((0 : Nat) : Int) by first | omega | rfl | (simp; done))) (.nil)))))) (.consE (show row 3 1 none (0) (0) (cells fI ([])) = row 3 1 none (0) (0) (cells fI ((rdI s).take 0)) by rfl) (.head) (.nil)) ?_
  intro R0 k A3 c3 hk hR0
  obtain ⟨hk1, hk2⟩ := hk
  have hrl := rdI_length s
  refine cw_seq ?_
  refine cw_region ?_
  refine wl_if (ov_lss rfl rfl) rfl rfl rfl (fun c9 => ?_) (fun c9 => ?_)
  ·
    refine wl_nil ?_
    refine ce_then ?_
    refine cw_seq ?_
    refine cw_true rfl ?_
    refine cw_skip ?_
    refine ce_then ?_
    refine cw_seq ?_
    refine cw_block ?_
    refine cw_seq ?_
    refine cw_region ?_
    refine wl_v (ov_move rfl) rfl rfl rfl ?_
    refine wl_v (ov_assign rfl) rfl rfl rfl ?_
    refine wl_nil ?_
    refine ce_then ?_
    refine cw_seq ?_
    refine cw_region ?_
    refine wl_v (ov_move rfl) rfl rfl rfl ?_
    refine wl_v (ov_move rfl) rfl rfl rfl ?_
    refine wl_v (ov_indexs (k := k) uI9 rfl rfl (show k < s.size from (by omega))) rfl rfl rfl ?_
    have hbt := (s.data.getD k 0).toNat_lt
    refine wl_v (ov_convi (by rw [uI5] <;> rfl) uI3 rfl (by omega)) rfl rfl rfl ?_
    refine wl_v (ov_sub (r := (((s.data.getD k 0).toNat : Nat) : Int) - 48) rfl rfl rfl (by omega)) rfl rfl rfl ?_
    refine wl_v (ov_assign rfl) rfl rfl rfl ?_
    refine wl_nil ?_
    refine ce_then ?_
    refine cw_seq ?_
    refine cw_seq ?_
    refine cw_region ?_
    refine wl_v (ov_move rfl) rfl rfl rfl ?_
    refine wl_if (ov_lss rfl rfl) rfl rfl rfl (fun c17 => ?_) (fun c17 => ?_)
    ·
      refine wl_nil ?_
      refine ce_then ?_
      refine cw_true rfl ?_
      refine cw_region ?_
      refine wl_v (ov_assign rfl) rfl rfl rfl ?_
      refine wl_nil ?_
      refine ce_then ?_
      refine cw_region ?_
      refine wl_v (ov_move rfl) rfl rfl rfl ?_
      refine wl_v (ov_move rfl) rfl rfl rfl ?_
      refine wl_r (or_buildSlice (e := 3) (size := 1) (is := [0]) (vs := [.int .i64 (99)]) (cs := cells fI ([99])) rfl rfl rfl (by decide) (fun _ => by kernel_rfl)) rfl rfl (kt1 rfl (fun g20 => ?_))
      refine wl_r (or_append (c2 := 1) sI33 tI3 rfl (by decide) rfl rfl (.tail .head) (holds_row (List.Mem.head _)) (by rw [cells_length fI_len]; try simp) (one_cells fI_one _) cells_append (by omega) (by omega)) rfl rfl (kt2p rfl (fun A21 c21 h21 => ?_))
      refine wl_v (ov_assign rfl) rfl rfl rfl ?_
      refine wl_nil ?_
      refine ce_block ?_
      refine ce_then ?_
      refine cw_region ?_
      refine wl_v (ov_add (r := ((k + 1 : Nat) : Int)) rfl rfl rfl (by omega)) rfl rfl rfl ?_
      refine wl_v (ov_move rfl) rfl rfl rfl ?_
      refine wl_nil ?_
      exact fun ac_ w_ hs_ => hR0 (k + 1) A21 c21 ⟨by omega, h21⟩ (by omega) ac_ w_ (hs_.weaken (.cons rfl (.cons rfl (.cons rfl (.cons rfl (.cons rfl (.nil)))))) (.consE (show row 3 1 A21 (k + 1) (c21) (cells fI (((rdI s).take k) ++ ([99]))) = row 3 1 A21 ((k + 1)) (c21) (cells fI ((rdI s).take (k + 1))) by rw [take_succ 0 (by omega), rdI_get (by omega), if_pos (by omega)]) (.head) (.nil)))
    ·
      refine wl_nil ?_
      refine ce_then ?_
      refine cw_false rfl ?_
      refine cw_skip ?_
      refine ce_then ?_
      refine cw_region ?_
      refine wl_v (ov_move rfl) rfl rfl rfl ?_
      refine wl_v (ov_move rfl) rfl rfl rfl ?_
      refine wl_r (or_buildSlice (e := 3) (size := 1) (is := [0]) (vs := [.int .i64 ((((s.data.getD k 0).toNat : Nat) : Int) - 48)]) (cs := cells fI ([(((s.data.getD k 0).toNat : Nat) : Int) - 48])) rfl rfl rfl (by decide) (fun _ => by kernel_rfl)) rfl rfl (kt1 rfl (fun g20 => ?_))
      refine wl_r (or_append (c2 := 1) sI33 tI3 rfl (by decide) rfl rfl (.tail .head) (holds_row (List.Mem.head _)) (by rw [cells_length fI_len]; try simp) (one_cells fI_one _) cells_append (by omega) (by omega)) rfl rfl (kt2p rfl (fun A21 c21 h21 => ?_))
      refine wl_v (ov_assign rfl) rfl rfl rfl ?_
      refine wl_nil ?_
      refine ce_block ?_
      refine ce_then ?_
      refine cw_region ?_
      refine wl_v (ov_add (r := ((k + 1 : Nat) : Int)) rfl rfl rfl (by omega)) rfl rfl rfl ?_
      refine wl_v (ov_move rfl) rfl rfl rfl ?_
      refine wl_nil ?_
      exact fun ac_ w_ hs_ => hR0 (k + 1) A21 c21 ⟨by omega, h21⟩ (by omega) ac_ w_ (hs_.weaken (.cons rfl (.cons rfl (.cons rfl (.cons rfl (.cons rfl (.nil)))))) (.consE (show row 3 1 A21 (k + 1) (c21) (cells fI (((rdI s).take k) ++ ([(((s.data.getD k 0).toNat : Nat) : Int) - 48]))) = row 3 1 A21 ((k + 1)) (c21) (cells fI ((rdI s).take (k + 1))) by rw [take_succ 0 (by omega), rdI_get (by omega), if_neg (by omega)]) (.head) (.nil)))
  ·
    refine wl_nil ?_
    refine ce_then ?_
    refine cw_seq ?_
    refine cw_false rfl ?_
    refine cw_exit ?_
    refine ce_then_exit ?_
    refine ce_then_exit ?_
    refine ce_hit ?_
    refine ce_then ?_
    refine cw_seq ?_
    refine cw_region ?_
    refine wl_v (ov_move rfl) rfl rfl rfl ?_
    refine wl_r (or_call (fv := []) (vs := [.slice A3 (k) (c3)]) (cs := []) en54 rfl rfl (call_v (fun w hw => clip_c w A3 k c3 ((rdI s).take k) ((holds_row (List.Mem.head _)) w hw) (by rw [List.length_take]; omega) hk2))) rfl rfl (kt0 rfl ?_)
    refine wl_v (ov_assign rfl) rfl rfl rfl ?_
    refine wl_nil ?_
    refine ce_then ?_
    refine cw_ret ?_
    refine ce_results (v := .slice A3 (k) (k)) (res1 rfl (rv_t rfl)) (fun w' hw => ?_)
    exact ⟨A3, c3, trivial, (by rw [show k = s.size from by omega]), ((.consE (show row 3 1 A3 (k) (c3) (cells fI ((rdI s).take k)) = row 3 1 A3 (s.size) (c3) (cells fI (rdI s)) by rw [show k = s.size from by omega, List.take_of_length_le (by rw [rdI_length]; exact Nat.le_refl _)]) (.head) (.nil) : Keep _ _).ss hw).to_new⟩
set_option maxRecDepth 100000 in
theorem ParseDegreesI_c (w : World) (s : ByteArray) (hs : s.size ≤ 1000) : Calls Tryd.prog 18 #[.string (s)] w (Ret fun rv w' => ∃ A2 k2 c2, ((parseV s).1.length ≤ k2) ∧ rv = .tuple #[.slice A2 ((parseV s).1.length) (k2), .bool ((parseV s).2)] ∧ New w w' [row 3 1 A2 ((parseV s).1.length) (c2) (cells fI ((parseV s).1))]) := by
  have hrl := rdI_length s
  refine fn_enter (args := [.string (s)]) Tryd.func18 rfl Tryd.ntmps18 rfl (SS.start w) ?_
  refine cw_seq ?_
  refine cw_region ?_
  refine wl_v (ov_assign rfl) rfl rfl rfl ?_
  refine wl_v (ov_assign rfl) rfl rfl rfl ?_
  refine wl_nil ?_
  refine ce_then ?_
  refine cw_seq ?_
  refine cw_region ?_
  refine wl_v (ov_move rfl) rfl rfl rfl ?_
  refine wl_r (or_call (fv := []) (vs := [.string (s)]) (cs := []) en35 rfl rfl (call_x2 (fun w hw => readDigits_c w s (by first | assumption | omega | (simp; omega))))) rfl rfl (kt2p rfl (fun A2_6 c2_6 h_6 => ?_))
  refine wl_v (ov_assign rfl) rfl rfl rfl ?_
  refine wl_nil ?_
  refine ce_then ?_
  refine cw_seq ?_
  refine cw_seq ?_
  refine cw_region ?_
  refine wl_v (ov_move rfl) rfl rfl rfl ?_
  refine wl_r (or_call (fv := []) (vs := [.slice A2_6 (s.size) (s.size)]) (cs := []) en17 rfl rfl (call_v (fun w hw => validI_c w A2_6 s.size s.size (rdI s) ((holds_row (List.Mem.head _)) w hw) hrl (Nat.le_refl _) (by omega)))) rfl rfl (kt_if rfl (fun c8 => ?_) (fun c8 => ?_))
  ·
    have hv : parseV s = (rdI s, true) := by rw [parseV_I, if_pos c8]
    refine wl_v (ov_not rfl) rfl rfl rfl ?_
    refine wl_nil ?_
    refine ce_then ?_
    refine cw_false rfl ?_
    refine cw_skip ?_
    refine ce_then ?_
    refine cw_seq ?_
    refine cw_region ?_
    refine wl_v (ov_move rfl) rfl rfl rfl ?_
    refine wl_v (ov_assign rfl) rfl rfl rfl ?_
    refine wl_v (ov_assign rfl) rfl rfl rfl ?_
    refine wl_nil ?_
    refine ce_then ?_
    refine cw_ret ?_
    refine ce_results (v := .tuple #[.slice A2_6 (s.size) (s.size), .bool true]) (res2 rfl (rv_t rfl) (rv_t rfl)) (fun w' hw => ?_)
    exact ⟨A2_6, s.size, c2_6, (by rw [hv]; show (rdI s).length ≤ _; omega), (by rw [hv]; show _ = Value.tuple #[.slice _ (rdI s).length _, _]; rw [hrl]), ((.consE (show row 3 1 A2_6 (s.size) (c2_6) (cells fI (rdI s)) = row 3 1 A2_6 ((parseV s).1.length) (c2_6) (cells fI ((parseV s).1)) by rw [hv]; show _ = row 3 1 _ (rdI s).length _ _; rw [hrl]) (.head) (.nil) : Keep _ _).ss hw).to_new⟩
  ·
    refine wl_v (ov_not rfl) rfl rfl rfl ?_
    refine wl_nil ?_
    refine ce_then ?_
    refine cw_true rfl ?_
    refine cw_seq ?_
    have hv : parseV s = ([], false) := by rw [parseV_I, if_neg c8]
    refine ct_none fI 3 1 ?_
    refine cw_region ?_
    refine wl_v (ov_assign rfl) rfl rfl rfl ?_
    refine wl_v (ov_assign rfl) rfl rfl rfl ?_
    refine wl_nil ?_
    refine ce_then ?_
    refine cw_ret ?_
    refine ce_then_ret ?_
    refine ce_results (v := .tuple #[.slice none (0) (0), .bool false]) (res2 rfl (rv_t rfl) (rv_t rfl)) (fun w' hw => ?_)
    exact ⟨none, 0, 0, (by rw [hv]; exact Nat.le_refl _), (by rw [hv] <;> rfl), ((.consE (show row 3 1 none (0) (0) (cells fI ([])) = row 3 1 none ((parseV s).1.length) (0) (cells fI ((parseV s).1)) by rw [hv] <;> rfl) (.head) (.nil) : Keep _ _).ss hw).to_new⟩
set_option maxRecDepth 100000 in
theorem parseDegS_c (w : World) (s : ByteArray) (hs : s.size ≤ 1000) : Calls Tryd.prog 39 #[.string (s)] w (Ret fun rv w' => ∃ A2 c2, (s.size ≤ c2) ∧ rv = .tuple #[.slice A2 (s.size) (c2), .bool (decide (Valid (rdS s)))] ∧ New w w' [row 3 1 A2 (s.size) (c2) (cells fI (rdS s))]) := by
  have hrl := rdS_length s
  refine fn_enter (args := [.string (s)]) Tryd.func39 rfl Tryd.ntmps39 rfl (SS.start w) ?_
  refine cw_seq ?_
  refine cw_region ?_
  refine wl_v (ov_assign rfl) rfl rfl rfl ?_
  refine wl_v (ov_assign rfl) rfl rfl rfl ?_
  refine wl_nil ?_
  refine ce_then ?_
  refine cw_seq ?_
  refine cw_region ?_
  refine wl_r (or_buildSlice (e := 3) (size := 1) (is := []) (vs := []) (cs := cells fI ([])) rfl rfl rfl (by decide) (fun _ => by kernel_rfl)) rfl rfl (kt1 rfl (fun g6 => ?_))
  refine wl_v (ov_assign rfl) rfl rfl rfl ?_
  refine wl_nil ?_
  refine ce_then ?_
  refine cw_seq ?_
  refine cw_seq ?_
  refine cw_region ?_
  refine wl_v (ov_assign rfl) rfl rfl rfl ?_
  refine wl_nil ?_
  refine ce_then ?_
  refine cw_block ?_
  refine cw_loop3 (fun (k : Nat) (A3 : Option Addr) (c3 : Nat) => [(0, .string (s)), (2, .slice none (0) (0)), (3, .bool false), (4, .slice A3 (k) (c3)), (5, .int .i64 (((k : Nat) : Int)))]) (fun (k : Nat) (A3 : Option Addr) (c3 : Nat) => [row 3 1 A3 (k) (c3) (cells fI ((rdS s).take k))]) (fun (k : Nat) (A3 : Option Addr) (c3 : Nat) => k ≤ s.size ∧ k ≤ c3) (fun (k : Nat) (A3 : Option Addr) (c3 : Nat) => s.size - k) 0 (some ⟨g6, 0, none⟩) 0 ⟨by omega, Nat.le_refl _⟩ (.cons rfl (.cons rfl (.cons rfl (.cons rfl (.cons (congrArg (fun z => some (Value.int .i64 z)) (show 0 = ((0 : Nat) : Int) by first | omega | rfl | (simp; done))) (.nil)))))) (.consE (show row 3 1 (some ⟨g6, 0, none⟩) (0) (0) (cells fI ([])) = row 3 1 (some ⟨g6, 0, none⟩) (0) (0) (cells fI ((rdS s).take 0)) by rfl) (.head) (.nil)) ?_
  intro R0 k A3 c3 hk hR0
  obtain ⟨hk1, hk2⟩ := hk
  refine cw_seq ?_
  refine cw_seq ?_
  refine cw_region ?_
  refine wl_v (ov_move rfl) rfl rfl rfl ?_
  refine wl_v (ov_move rfl) rfl rfl rfl ?_
  refine wl_v (ov_lens uI9 rfl) rfl rfl rfl ?_
  refine wl_if (ov_lss rfl rfl) rfl rfl rfl (fun c10 => ?_) (fun c10 => ?_)
  ·
    refine wl_nil ?_
    refine ce_then ?_
    refine cw_true rfl ?_
    refine cw_skip ?_
    refine ce_then ?_
    refine cw_seq ?_
    refine cw_block ?_
    refine cw_region ?_
    refine wl_v (ov_move rfl) rfl rfl rfl ?_
    refine wl_v (ov_move rfl) rfl rfl rfl ?_
    refine wl_v (ov_move rfl) rfl rfl rfl ?_
    refine wl_v (ov_indexs (k := k) uI9 rfl rfl (show k < s.size from (by omega))) rfl rfl rfl ?_
    have hbt := (s.data.getD k 0).toNat_lt
    refine wl_v (ov_convi (by rw [uI5] <;> rfl) uI3 rfl (by omega)) rfl rfl rfl ?_
    refine wl_v (ov_sub (r := (((s.data.getD k 0).toNat : Nat) : Int) - 48) rfl rfl rfl (by omega)) rfl rfl rfl ?_
    refine wl_r (or_buildSlice (e := 3) (size := 1) (is := [0]) (vs := [.int .i64 ((((s.data.getD k 0).toNat : Nat) : Int) - 48)]) (cs := cells fI ([(((s.data.getD k 0).toNat : Nat) : Int) - 48])) rfl rfl rfl (by decide) (fun _ => by kernel_rfl)) rfl rfl (kt1 rfl (fun g19 => ?_))
    refine wl_r (or_append (c2 := 1) sI33 tI3 rfl (by decide) rfl rfl (.tail .head) (holds_row (List.Mem.head _)) (by rw [cells_length fI_len]; try simp) (one_cells fI_one _) cells_append (by omega) (by omega)) rfl rfl (kt2p rfl (fun A20 c20 h20 => ?_))
    refine wl_v (ov_assign rfl) rfl rfl rfl ?_
    refine wl_nil ?_
    refine ce_block ?_
    refine ce_then ?_
    refine cw_region ?_
    refine wl_v (ov_move rfl) rfl rfl rfl ?_
    refine wl_v (ov_add (r := ((k + 1 : Nat) : Int)) rfl rfl rfl (by omega)) rfl rfl rfl ?_
    refine wl_v (ov_assign rfl) rfl rfl rfl ?_
    refine wl_nil ?_
    exact fun ac_ w_ hs_ => hR0 (k + 1) A20 c20 ⟨by omega, h20⟩ (by omega) ac_ w_ (hs_.weaken (.cons rfl (.cons rfl (.cons rfl (.cons rfl (.cons rfl (.nil)))))) (.consE (show row 3 1 A20 (k + 1) (c20) (cells fI (((rdS s).take k) ++ ([(((s.data.getD k 0).toNat : Nat) : Int) - 48]))) = row 3 1 A20 ((k + 1)) (c20) (cells fI ((rdS s).take (k + 1))) by rw [take_succ 0 (by omega), rdS_get (by omega)]) (.head) (.nil)))
  ·
    have hfin : (rdS s).take k = rdS s := List.take_of_length_le (by omega)
    refine wl_nil ?_
    refine ce_then ?_
    refine cw_false rfl ?_
    refine cw_exit ?_
    refine ce_then_exit ?_
    refine ce_then_exit ?_
    refine ce_hit ?_
    refine ce_then ?_
    refine cw_seq ?_
    refine cw_region ?_
    refine wl_v (ov_move rfl) rfl rfl rfl ?_
    refine wl_v (ov_move rfl) rfl rfl rfl ?_
    refine wl_r (or_call (fv := []) (vs := [.slice A3 (k) (c3)]) (cs := []) en30 rfl rfl (call_v (fun w hw => validS_c w A3 k c3 ((rdS s).take k) ((holds_row (List.Mem.head _)) w hw) (by rw [List.length_take]; omega) hk2 (by rw [List.length_take]; omega)))) rfl rfl (kt_if rfl (fun c23 => ?_) (fun c23 => ?_))
    ·
      refine wl_v (ov_assign rfl) rfl rfl rfl ?_
      refine wl_v (ov_assign rfl) rfl rfl rfl ?_
      refine wl_nil ?_
      refine ce_then ?_
      refine cw_ret ?_
      refine ce_results (v := .tuple #[.slice A3 (k) (c3), .bool true]) (res2 rfl (rv_t rfl) (rv_t rfl)) (fun w' hw => ?_)
      exact ⟨A3, c3, (by omega), (by rw [show k = s.size from by omega, decide_eq_true (show Valid (rdS s) from by rw [← hfin]; exact c23)]), ((.consE (show row 3 1 A3 (k) (c3) (cells fI ((rdS s).take k)) = row 3 1 A3 (s.size) (c3) (cells fI (rdS s)) by rw [hfin, show k = s.size from by omega]) (.head) (.nil) : Keep _ _).ss hw).to_new⟩
    ·
      refine wl_v (ov_assign rfl) rfl rfl rfl ?_
      refine wl_v (ov_assign rfl) rfl rfl rfl ?_
      refine wl_nil ?_
      refine ce_then ?_
      refine cw_ret ?_
      refine ce_results (v := .tuple #[.slice A3 (k) (c3), .bool false]) (res2 rfl (rv_t rfl) (rv_t rfl)) (fun w' hw => ?_)
      exact ⟨A3, c3, (by omega), (by rw [show k = s.size from by omega, decide_eq_false (show ¬ Valid (rdS s) from by rw [← hfin]; exact c23)]), ((.consE (show row 3 1 A3 (k) (c3) (cells fI ((rdS s).take k)) = row 3 1 A3 (s.size) (c3) (cells fI (rdS s)) by rw [hfin, show k = s.size from by omega]) (.head) (.nil) : Keep _ _).ss hw).to_new⟩
set_option maxRecDepth 100000 in
theorem ParseDegreesS_c (w : World) (s : ByteArray) (hs : s.size ≤ 1000) : Calls Tryd.prog 21 #[.string (s)] w (Ret fun rv w' => ∃ A2 k2 c2, ((parseV s).1.length ≤ k2) ∧ rv = .tuple #[.slice A2 ((parseV s).1.length) (k2), .bool ((parseV s).2)] ∧ New w w' [row 3 1 A2 ((parseV s).1.length) (c2) (cells fI ((parseV s).1))]) := by
  have hrl := rdS_length s
  refine fn_enter (args := [.string (s)]) Tryd.func21 rfl Tryd.ntmps21 rfl (SS.start w) ?_
  refine cw_seq ?_
  refine cw_region ?_
  refine wl_v (ov_assign rfl) rfl rfl rfl ?_
  refine wl_v (ov_assign rfl) rfl rfl rfl ?_
  refine wl_nil ?_
  refine ce_then ?_
  refine cw_seq ?_
  refine cw_region ?_
  refine wl_v (ov_move rfl) rfl rfl rfl ?_
  refine wl_r (or_call (fv := []) (vs := [.string (s)]) (cs := []) en39 rfl rfl (call_x2 (fun w hw => parseDegS_c w s (by first | assumption | omega | (simp; omega))))) rfl rfl (kt2p rfl (fun A2_8 c2_8 h_8 => ?_))
  refine wl_v (ov_move rfl) rfl rfl rfl ?_
  refine wl_v (ov_extract rfl rfl) rfl rfl rfl ?_
  refine wl_v (ov_extract rfl rfl) rfl rfl rfl ?_
  refine wl_v (ov_assign rfl) rfl rfl rfl ?_
  refine wl_v (ov_assign rfl) rfl rfl rfl ?_
  refine wl_nil ?_
  refine ce_then ?_
  refine cw_seq ?_
  refine cw_seq ?_
  refine cw_region ?_
  refine wl_v (ov_move rfl) rfl rfl rfl ?_
  refine wl_if (OpV.dec (ov_not rfl)) rfl rfl rfl (fun c12 => ?_) (fun c12 => ?_)
  ·
    refine wl_nil ?_
    refine ce_then ?_
    refine cw_true rfl ?_
    refine cw_seq ?_
    have hv : parseV s = ([], false) := if_neg (by simpa using c12)
    refine ct_none fI 3 1 ?_
    refine cw_region ?_
    refine wl_v (ov_assign rfl) rfl rfl rfl ?_
    refine wl_v (ov_assign rfl) rfl rfl rfl ?_
    refine wl_nil ?_
    refine ce_then ?_
    refine cw_ret ?_
    refine ce_then_ret ?_
    refine ce_results (v := .tuple #[.slice none (0) (0), .bool false]) (res2 rfl (rv_t rfl) (rv_t rfl)) (fun w' hw => ?_)
    exact ⟨none, 0, 0, (by rw [hv]; exact Nat.le_refl _), (by rw [hv] <;> rfl), ((.consE (show row 3 1 none (0) (0) (cells fI ([])) = row 3 1 none ((parseV s).1.length) (0) (cells fI ((parseV s).1)) by rw [hv] <;> rfl) (.head) (.nil) : Keep _ _).ss hw).to_new⟩
  ·
    refine wl_nil ?_
    refine ce_then ?_
    refine cw_false rfl ?_
    refine cw_skip ?_
    refine ce_then ?_
    refine cw_seq ?_
    have hv : parseV s = (rdS s, true) := if_pos (by simpa using c12)
    refine cw_region ?_
    refine wl_v (ov_move rfl) rfl rfl rfl ?_
    refine wl_v (ov_assign rfl) rfl rfl rfl ?_
    refine wl_v (ov_assign rfl) rfl rfl rfl ?_
    refine wl_nil ?_
    refine ce_then ?_
    refine cw_ret ?_
    refine ce_results (v := .tuple #[.slice A2_8 (s.size) (c2_8), .bool true]) (res2 rfl (rv_t rfl) (rv_t rfl)) (fun w' hw => ?_)
    exact ⟨A2_8, c2_8, c2_8, (by rw [hv]; show (rdS s).length ≤ _; omega), (by rw [hv]; show _ = Value.tuple #[.slice _ (rdS s).length _, _]; rw [hrl]), ((.consE (show row 3 1 A2_8 (s.size) (c2_8) (cells fI (rdS s)) = row 3 1 A2_8 ((parseV s).1.length) (c2_8) (cells fI ((parseV s).1)) by rw [hv]; show _ = row 3 1 _ (rdS s).length _ _; rw [hrl]) (.head) (.nil) : Keep _ _).ss hw).to_new⟩
end Go.Proofs.YthllnilddbdmaaaDoor.W53
