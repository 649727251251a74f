/- Walks of functions of the given program: each returns what its Lean function says and leaves the memory that was there as it was. Conditions: those of each theorem. -/
import Derived.Test.YthllnilddbdmaaaDoorSm
import Derived.Test.YthllnilddbdmaaaDoorProg
import Derived.Test.YthllnilddbdmaaaDoorPl
import Derived.Test.YthllnilddbdmaaaDoorPo
import Derived.Test.YthllnilddbdmaaaDoorPd
import Derived.Test.YthllnilddbdmaaaDoorPe
import Derived.Test.YthllnilddbdmaaaDoorPh
import Derived.Test.YthllnilddbdmaaaDoorPm
import Derived.Test.YthllnilddbdmaaaDoorPc
import Derived.Test.YthllnilddbdmaaaDoorPs
import Derived.Test.YthllnilddbdmaaaDoorPt
import Derived.Test.YthllnilddbdmaaaDoorPu
import Derived.Test.YthllnilddbdmaaaDoorPv
import Derived.Test.YthllnilddbdmaaaDoorPw
import Derived.Test.YthllnilddbdmaaaDoorPx
import Derived.Test.YthllnilddbdmaaaDoorPy
import Derived.Test.YthllnilddbdmaaaDoorPz
import Derived.Test.YthllnilddbdmaaaDoorPr
import Derived.Test.YthllnilddbdmaaaDoorPa
import Derived.Test.YthllnilddbdmaaaDoorPn
import Derived.Test.YthllnilddbdmaaaDoorPj
import Derived.Test.YthllnilddbdmaaaDoorPq
import Derived.Test.YthllnilddbdmaaaDoorSs
import Derived.Test.YthllnilddbdmaaaDoorPk
import Derived.Test.YthllnilddbdmaaaDoorSb
import Derived.Test.YthllnilddbdmaaaDoorT
import Derived.Test.YthllnilddbdmaaaDoorW2
import Derived.Test.YthllnilddbdmaaaDoorW50
import Derived.KernelRfl
namespace Go.Proofs.YthllnilddbdmaaaDoor.W51
open Go.Sx Go.RowKit Go.Proofs.YthllnilddbdmaaaDoor.T Go.Proofs.YthllnilddbdmaaaDoor.W2 Go.Proofs.YthllnilddbdmaaaDoor.W50
open Go.Plain
set_option linter.unusedVariables false
set_option maxRecDepth 100000 in
theorem digits_c (w : World) (A : Option Addr) (n : Nat) (c : Nat) (xs : List (Int)) (hA : At w A (cells fI xs)) (eA : xs.length = n) (lA : n ≤ c) (hs : xs.length ≤ 1000) (hx : ∀ x ∈ xs, 0 ≤ x ∧ x < 100) : Calls Tryd.prog 27 #[.slice A (n) (c)] w (Ret fun rv w' => rv = .string (bstr (dig xs)) ∧ New w w' []) := by
  have oA := hA.atB
  subst eA
  refine fn_enter (args := [.slice A (xs.length) (c)]) Tryd.func27 rfl Tryd.ntmps27 rfl (SS.start w) ?_
  refine cw_seq ?_
  refine cw_region ?_
  refine wl_v (ov_assign rfl) rfl rfl rfl ?_
  refine wl_nil ?_
  refine ce_then ?_
  refine cw_seq ?_
  refine cw_region ?_
  refine wl_r (or_alloc tI67 rfl) rfl rfl (kt1 rfl (fun g3 => ?_))
  refine wl_nil ?_
  refine ce_then ?_
  refine cw_seq ?_
  refine cw_seq ?_
  refine ct_none fY 5 1 ?_
  refine cw_region ?_
  refine wl_v (ov_move rfl) rfl rfl rfl ?_
  refine wl_v (ov_len (sliceI_spec sI33) rfl) rfl rfl rfl ?_
  refine wl_v (ov_move rfl) rfl rfl rfl ?_
  refine wl_nil ?_
  refine ce_then ?_
  refine cw_block ?_
  refine cw_loop4 (fun (k : Nat) (pv : Value) (A3 : Option Addr) (c3 : Nat) => [(2, .string (bstr [])), (3, elp (some ⟨g3, 0, none⟩) (0)), (6, .slice A (xs.length) (c)), (7, .int .i64 (((xs.length : Nat) : Int))), (8, .int .i64 (((k : Nat) : Int)))]) (fun (k : Nat) (pv : Value) (A3 : Option Addr) (c3 : Nat) => [row 5 1 A3 ((dig (xs.take k)).length) (c3) (cells fY ((dig (xs.take k)).map UInt8.toNat)), blk g3 [pv, .slice A3 ((dig (xs.take k)).length) (c3)] 67]) (fun (k : Nat) (pv : Value) (A3 : Option Addr) (c3 : Nat) => k ≤ xs.length ∧ (dig (xs.take k)).length ≤ c3 ∧ (pv = .pointer none ∨ pv = .pointer (some ⟨g3, 0, none⟩))) (fun (k : Nat) (pv : Value) (A3 : Option Addr) (c3 : Nat) => xs.length - k) 0 (.pointer none) none 0 ⟨by omega, Nat.le_refl _, .inl rfl⟩ (.cons rfl (.cons rfl (.cons rfl (.cons rfl (.cons (congrArg (fun z => some (Value.int .i64 z)) (show 0 = ((0 : Nat) : Int) by first | omega | rfl | (simp; done))) (.nil)))))) (.consE (show row 5 1 none (0) (0) (cells fY ([])) = row 5 1 none ((dig (xs.take 0)).length) (0) (cells fY ((dig (xs.take 0)).map UInt8.toNat)) by rfl) (.head) (.consE (show blk g3 [.pointer none, .slice none (0) (0)] 67 = blk g3 [(.pointer none), .slice none ((dig (xs.take 0)).length) (0)] 67 by rfl) (.head) (.nil))) ?_
  intro R0 k pv A3 c3 hk hR0
  obtain ⟨hk1, hk2, hk3⟩ := hk
  have hdl := dig_len (xs := xs.take k) (fun x hx9 => (hx x (List.mem_of_mem_take hx9)).2)
  have htl : (xs.take k).length ≤ xs.length := by rw [List.length_take]; omega
  refine cw_seq ?_
  refine cw_region ?_
  refine wl_if (ov_lss rfl rfl) rfl rfl rfl (fun c9 => ?_) (fun c9 => ?_)
  ·
    refine wl_nil ?_
    refine ce_then ?_
    refine cw_seq ?_
    refine cw_true rfl ?_
    refine cw_skip ?_
    refine ce_then ?_
    refine cw_seq ?_
    refine cw_block ?_
    refine cw_seq ?_
    refine cw_region ?_
    refine wl_v (ov_index (k := k) (c := c) sI33 tI3 rfl rfl (some_holds (q := k * 1) (holds_old oA) (by rw [cells_length fI_len]; have hlt : k < xs.length := (by first | omega | (simp; omega)); omega)) (show k < xs.length from (by first | omega | (simp; omega)))) rfl rfl rfl ?_
    refine wl_v (ov_load tI3 (holds_old oA) rfl (get_fI (show k < xs.length from (by first | omega | (simp; omega))))) rfl rfl rfl ?_
    have hxk := hx _ (getD_mem (xs := xs) (k := k) 0 (by omega))
    have hgl := dg_len hxk.2
    refine wl_v (ov_assign rfl) rfl rfl rfl ?_
    refine wl_nil ?_
    refine ce_then ?_
    refine cw_region ?_
    refine wl_v (ov_move rfl) rfl rfl rfl ?_
    refine wl_r (or_call (fv := []) (vs := [.int .i64 ((xs.getD k 0))]) (cs := []) en47 rfl rfl (call_v (fun w hw => itoa_c w (xs.getD k 0) (by first | assumption | omega | (simp; omega))))) rfl rfl (kt0 rfl ?_)
    refine wl_r (or_call (fv := []) (vs := [elp (some ⟨g3, 0, none⟩) (0), .string (bstr (dg (xs.getD k 0)))]) (cs := []) en46 rfl rfl (call_o (.cons (.tail .head) (.cons (.head) (.nil))) (fun w hw => wstr_c w _ _ _ (bstr (dg (xs.getD k 0))) g3 pv A3 ((dig (xs.take k)).length) c3 ((dig (xs.take k)).map UInt8.toNat) rfl hk3 (by rw [List.length_map]) (by rw [bstr_size]; omega) hw))) rfl rfl (kt2p rfl (fun A2_14 c2_14 h_14 => ?_))
    refine wl_nil ?_
    refine ce_block ?_
    refine ce_then ?_
    refine cw_region ?_
    refine wl_v (ov_add (r := ((k + 1 : Nat) : Int)) rfl rfl rfl (by omega)) rfl rfl rfl ?_
    refine wl_v (ov_move rfl) rfl rfl rfl ?_
    refine wl_nil ?_
    exact fun ac_ w_ hs_ => hR0 (k + 1) (.pointer (some ⟨g3, 0, none⟩)) A2_14 c2_14 ⟨by omega, by rw [dig_succ (by omega), List.length_append, ← bstr_size (dg _)]; exact h_14, .inr rfl⟩ (by omega) ac_ w_ (hs_.weaken (.cons rfl (.cons rfl (.cons rfl (.cons rfl (.cons rfl (.nil)))))) (.consE (show row 5 1 A2_14 (((dig (xs.take k)).length) + (bstr (dg (xs.getD k 0))).size) (c2_14) (cells fY (((dig (xs.take k)).map UInt8.toNat) ++ Sb.bytesN (bstr (dg (xs.getD k 0))))) = row 5 1 A2_14 ((dig (xs.take (k + 1))).length) (c2_14) (cells fY ((dig (xs.take (k + 1))).map UInt8.toNat)) by rw [dig_succ (by omega), List.length_append, ← bstr_size (dg _), List.map_append] <;> rfl) (.tail .head) (.consE (show blk g3 [.pointer (some ⟨g3, 0, none⟩), .slice A2_14 (((dig (xs.take k)).length) + (bstr (dg (xs.getD k 0))).size) (c2_14)] 67 = blk g3 [(.pointer (some ⟨g3, 0, none⟩)), .slice A2_14 ((dig (xs.take (k + 1))).length) (c2_14)] 67 by rw [dig_succ (by omega), List.length_append, ← bstr_size (dg _)]) (.head) (.nil))))
  ·
    refine wl_nil ?_
    refine ce_then ?_
    refine cw_seq ?_
    refine cw_false rfl ?_
    refine cw_exit ?_
    refine ce_then_exit ?_
    refine ce_then_exit ?_
    refine ce_hit ?_
    refine ce_then ?_
    refine cw_seq ?_
    refine cw_region ?_
    refine wl_r (or_call (fv := []) (vs := [elp (some ⟨g3, 0, none⟩) (0)]) (cs := []) en48 rfl rfl (call_o (.cons (.tail .head) (.cons (.head) (.nil))) (fun w hw => bstring_c w _ _ _ g3 pv A3 ((dig (xs.take k)).length) c3 ((dig (xs.take k)).map UInt8.toNat) (dig (xs.take k)) rfl hk3 (by rw [List.length_map]) rfl hw))) rfl rfl (kt0 rfl ?_)
    refine wl_v (ov_assign rfl) rfl rfl rfl ?_
    refine wl_nil ?_
    refine ce_then ?_
    refine cw_ret ?_
    refine ce_results (v := .string (bstr (dig (xs.take k)))) (res1 rfl (rv_t rfl)) (fun w' hw => ?_)
    exact ⟨(by rw [List.take_of_length_le (by omega)]), (Keep.nil.ss hw).to_new⟩
set_option maxRecDepth 100000 in
theorem DegreesTextI_c (w : World) (A : Option Addr) (n : Nat) (c : Nat) (xs : List (Int)) (hA : At w A (cells fI xs)) (eA : xs.length = n) (lA : n ≤ c) (hs : xs.length ≤ 4000000) : Calls Tryd.prog 14 #[.slice A (n) (c)] w (Ret fun rv w' => rv = .string (bstr (textV xs)) ∧ New w w' []) := by
  have oA := hA.atB
  subst eA
  refine fn_enter (args := [.slice A (xs.length) (c)]) Tryd.func14 rfl Tryd.ntmps14 rfl (SS.start w) ?_
  refine cw_seq ?_
  refine cw_region ?_
  refine wl_v (ov_assign rfl) rfl rfl rfl ?_
  refine wl_nil ?_
  refine ce_then ?_
  refine cw_seq ?_
  refine cw_seq ?_
  refine cw_region ?_
  refine wl_v (ov_move rfl) rfl rfl rfl ?_
  refine wl_r (or_call (fv := []) (vs := [.slice A (xs.length) (c)]) (cs := []) en17 rfl rfl (call_v (fun w hw => validI_c w A xs.length c xs ((holds_old oA) w hw) rfl lA (by first | assumption | omega | (simp; omega))))) rfl rfl (kt_if rfl (fun c4 => ?_) (fun c4 => ?_))
  ·
    refine wl_v (ov_not rfl) rfl rfl rfl ?_
    refine wl_nil ?_
    refine ce_then ?_
    refine cw_false rfl ?_
    refine cw_skip ?_
    refine ce_then ?_
    refine cw_seq ?_
    refine cw_region ?_
    refine wl_v (ov_move rfl) rfl rfl rfl ?_
    refine wl_r (or_call (fv := []) (vs := [.slice A (xs.length) (c)]) (cs := []) en27 rfl rfl (call_v (fun w hw => digits_c w A xs.length c xs ((holds_old oA) w hw) rfl lA (by have := c4.1; omega) (fun x hx => by have := c4.dig x hx; omega)))) rfl rfl (kt0 rfl ?_)
    refine wl_v (ov_assign rfl) rfl rfl rfl ?_
    refine wl_nil ?_
    refine ce_then ?_
    refine cw_ret ?_
    refine ce_results (v := .string (bstr (dig xs))) (res1 rfl (rv_t rfl)) (fun w' hw => ?_)
    exact ⟨(by rw [textV, if_pos c4]), (Keep.nil.ss hw).to_new⟩
  ·
    refine wl_v (ov_not rfl) rfl rfl rfl ?_
    refine wl_nil ?_
    refine ce_then ?_
    refine cw_true rfl ?_
    refine cw_seq ?_
    refine cw_region ?_
    refine wl_v (ov_assign rfl) rfl rfl rfl ?_
    refine wl_nil ?_
    refine ce_then ?_
    refine cw_ret ?_
    refine ce_then_ret ?_
    refine ce_results (v := .string (bstr [])) (res1 rfl (rv_t rfl)) (fun w' hw => ?_)
    exact ⟨(by rw [textV, if_neg c4]), (Keep.nil.ss hw).to_new⟩
set_option maxRecDepth 100000 in
theorem digit_c (w : World) (m0 : Int) (hm : 0 ≤ m0 ∧ m0 ≤ 9) : Calls Tryd.prog 42 #[.int .i64 (m0)] w (Ret fun rv w' => rv = .string (bstr (dg m0)) ∧ New w w' []) := by
  obtain ⟨k, rfl⟩ := Int.eq_ofNat_of_zero_le (hm.1)
  refine fn_enter (args := [.int .i64 (((k : Nat) : Int))]) Tryd.func42 rfl Tryd.ntmps42 rfl (SS.start w) ?_
  refine cw_seq ?_
  refine cw_region ?_
  refine wl_v (ov_assign rfl) rfl rfl rfl ?_
  refine wl_nil ?_
  refine ce_then ?_
  refine cw_seq ?_
  refine cw_region ?_
  refine wl_v (ov_move rfl) rfl rfl rfl ?_
  refine wl_v (ov_move rfl) rfl rfl rfl ?_
  refine wl_v (ov_add (r := ((k + 1 : Nat) : Int)) rfl rfl rfl (by omega)) rfl rfl rfl ?_
  refine wl_v (ov_slices_lh (l := k) (h := k + 1) uI9 rfl rfl rfl (by omega) (by show k + 1 ≤ 10; omega)) rfl rfl rfl ?_
  refine wl_v (ov_assign rfl) rfl rfl rfl ?_
  refine wl_nil ?_
  refine ce_then ?_
  refine cw_ret ?_
  refine ce_results (v := .string (((bstr [48, 49, 50, 51, 52, 53, 54, 55, 56, 57]).extract k (k + 1)))) (res1 rfl (rv_t rfl)) (fun w' hw => ?_)
  exact ⟨(by rw [dg_one (by omega)]; rcases (show k = 0 ∨ k = 1 ∨ k = 2 ∨ k = 3 ∨ k = 4 ∨ k = 5 ∨ k = 6 ∨ k = 7 ∨ k = 8 ∨ k = 9 from by omega) with rfl | rfl | rfl | rfl | rfl | rfl | rfl | rfl | rfl | rfl <;> rfl), (Keep.nil.ss hw).to_new⟩
set_option maxRecDepth 100000 in
theorem degreesTextS_c (w : World) (A : Option Addr) (n : Nat) (c : Nat) (xs : List (Int)) (hA : At w A (cells fI xs)) (eA : xs.length = n) (lA : n ≤ c) (hs : xs.length ≤ 1000) (hx : ∀ x ∈ xs, 0 ≤ x ∧ x ≤ 9) : Calls Tryd.prog 31 #[.slice A (n) (c)] w (Ret fun rv w' => rv = .string (bstr (dig xs)) ∧ New w w' []) := by
  have oA := hA.atB
  subst eA
  refine fn_enter (args := [.slice A (xs.length) (c)]) Tryd.func31 rfl Tryd.ntmps31 rfl (SS.start w) ?_
  refine cw_seq ?_
  refine cw_region ?_
  refine wl_v (ov_assign rfl) rfl rfl rfl ?_
  refine wl_nil ?_
  refine ce_then ?_
  refine cw_seq ?_
  refine cw_region ?_
  refine wl_v (ov_assign rfl) rfl rfl rfl ?_
  refine wl_nil ?_
  refine ce_then ?_
  refine cw_seq ?_
  refine cw_seq ?_
  refine cw_region ?_
  refine wl_v (ov_assign rfl) rfl rfl rfl ?_
  refine wl_nil ?_
  refine ce_then ?_
  refine cw_block ?_
  refine cw_loop1 (fun (k : Nat) => [(0, .slice A (xs.length) (c)), (2, .string (bstr [])), (3, .string (bstr (dig (xs.take k)))), (4, .int .i64 (((k : Nat) : Int)))]) (fun (k : Nat) => []) (fun (k : Nat) => k ≤ xs.length) (fun (k : Nat) => xs.length - k) 0 (by omega) (.cons rfl (.cons rfl (.cons (congrArg (fun z => some (Value.string z)) (show bstr [] = bstr (dig (xs.take 0)) from rfl)) (.cons (congrArg (fun z => some (Value.int .i64 z)) (show 0 = ((0 : Nat) : Int) by first | omega | rfl | (simp; done))) (.nil))))) (.nil) ?_
  intro R0 k hk hR0
  have hdl := dig_len (xs := xs.take k) (fun x hx9 => by have := hx x (List.mem_of_mem_take hx9); omega)
  have htl : (xs.take k).length ≤ xs.length := by rw [List.length_take]; omega
  refine cw_seq ?_
  refine cw_seq ?_
  refine cw_region ?_
  refine wl_v (ov_move rfl) rfl rfl rfl ?_
  refine wl_v (ov_move rfl) rfl rfl rfl ?_
  refine wl_v (ov_len (sliceI_spec sI33) rfl) rfl rfl rfl ?_
  refine wl_if (ov_lss rfl rfl) rfl rfl rfl (fun c8 => ?_) (fun c8 => ?_)
  ·
    refine wl_nil ?_
    refine ce_then ?_
    refine cw_true rfl ?_
    refine cw_skip ?_
    refine ce_then ?_
    refine cw_seq ?_
    refine cw_block ?_
    refine cw_region ?_
    refine wl_v (ov_move rfl) rfl rfl rfl ?_
    refine wl_v (ov_move rfl) rfl rfl rfl ?_
    refine wl_v (ov_move rfl) rfl rfl rfl ?_
    refine wl_v (ov_index (k := k) (c := c) sI33 tI3 rfl rfl (some_holds (q := k * 1) (holds_old oA) (by rw [cells_length fI_len]; have hlt : k < xs.length := (by omega); omega)) (show k < xs.length from (by omega))) rfl rfl rfl ?_
    refine wl_v (ov_load tI3 (holds_old oA) rfl (get_fI (show k < xs.length from (by omega)))) rfl rfl rfl ?_
    have hxk := hx _ (getD_mem (xs := xs) (k := k) 0 (by omega))
    have hgl := dg_len (show xs.getD k 0 < 100 from by omega)
    refine wl_r (or_call (fv := []) (vs := [.int .i64 ((xs.getD k 0))]) (cs := []) en42 rfl rfl (call_v (fun w hw => digit_c w (xs.getD k 0) hxk))) rfl rfl (kt0 rfl ?_)
    refine wl_v (ov_adds (r := bstr ((dig (xs.take k)) ++ (dg (xs.getD k 0)))) rfl rfl (bstr_append _ _) (by rw [bstr_size, bstr_size]; omega)) rfl rfl rfl ?_
    refine wl_v (ov_assign rfl) rfl rfl rfl ?_
    refine wl_nil ?_
    refine ce_block ?_
    refine ce_then ?_
    refine cw_region ?_
    refine wl_v (ov_move rfl) rfl rfl rfl ?_
    refine wl_v (ov_add (r := ((k + 1 : Nat) : Int)) rfl rfl rfl (by omega)) rfl rfl rfl ?_
    refine wl_v (ov_assign rfl) rfl rfl rfl ?_
    refine wl_nil ?_
    exact fun ac_ w_ hs_ => hR0 (k + 1) (by omega) (by omega) ac_ w_ (hs_.weaken (.cons rfl (.cons rfl (.cons (congrArg (fun z => some (Value.string z)) (show bstr ((dig (xs.take k)) ++ (dg (xs.getD k 0))) = bstr (dig (xs.take (k + 1))) from (by rw [dig_succ (by omega)]))) (.cons rfl (.nil))))) (.nil))
  ·
    refine wl_nil ?_
    refine ce_then ?_
    refine cw_false rfl ?_
    refine cw_exit ?_
    refine ce_then_exit ?_
    refine ce_then_exit ?_
    refine ce_hit ?_
    refine ce_then ?_
    refine cw_seq ?_
    refine cw_region ?_
    refine wl_v (ov_move rfl) rfl rfl rfl ?_
    refine wl_v (ov_assign rfl) rfl rfl rfl ?_
    refine wl_nil ?_
    refine ce_then ?_
    refine cw_ret ?_
    refine ce_results (v := .string (bstr (dig (xs.take k)))) (res1 rfl (rv_t rfl)) (fun w' hw => ?_)
    exact ⟨(by rw [List.take_of_length_le (by omega)]), (Keep.nil.ss hw).to_new⟩
end Go.Proofs.YthllnilddbdmaaaDoor.W51
