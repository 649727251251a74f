/- Walks of functions of the given program: each returns what its Lean function says and leaves the memory that was there as it was. Conditions: those of each theorem. -/
import Derived.Test.YthllnilddbdmaaaDoorSm
import Derived.Test.YthllnilddbdmaaaDoorProg
import Derived.Test.YthllnilddbdmaaaDoorPl
import Derived.Test.YthllnilddbdmaaaDoorPo
import Derived.Test.YthllnilddbdmaaaDoorPd
import Derived.Test.YthllnilddbdmaaaDoorPe
import Derived.Test.YthllnilddbdmaaaDoorPh
import Derived.Test.YthllnilddbdmaaaDoorPm
import Derived.Test.YthllnilddbdmaaaDoorPc
import Derived.Test.YthllnilddbdmaaaDoorPs
import Derived.Test.YthllnilddbdmaaaDoorPt
import Derived.Test.YthllnilddbdmaaaDoorPu
import Derived.Test.YthllnilddbdmaaaDoorPv
import Derived.Test.YthllnilddbdmaaaDoorPw
import Derived.Test.YthllnilddbdmaaaDoorPx
import Derived.Test.YthllnilddbdmaaaDoorPy
import Derived.Test.YthllnilddbdmaaaDoorPz
import Derived.Test.YthllnilddbdmaaaDoorPr
import Derived.Test.YthllnilddbdmaaaDoorPa
import Derived.Test.YthllnilddbdmaaaDoorPn
import Derived.Test.YthllnilddbdmaaaDoorPj
import Derived.Test.YthllnilddbdmaaaDoorPq
import Derived.Test.YthllnilddbdmaaaDoorSs
import Derived.Test.YthllnilddbdmaaaDoorPk
import Derived.Test.YthllnilddbdmaaaDoorSb
import Derived.Test.YthllnilddbdmaaaDoorT
import Derived.Test.YthllnilddbdmaaaDoorW5
import Derived.Test.YthllnilddbdmaaaDoorW50
import Derived.Test.YthllnilddbdmaaaDoorW51
import Derived.KernelRfl
namespace Go.Proofs.YthllnilddbdmaaaDoor.W52
open Go.Sx Go.RowKit Go.Proofs.YthllnilddbdmaaaDoor.T Go.Proofs.YthllnilddbdmaaaDoor.W5 Go.Proofs.YthllnilddbdmaaaDoor.W50 Go.Proofs.YthllnilddbdmaaaDoor.W51
open Go.Plain
set_option linter.unusedVariables false
set_option maxRecDepth 100000 in
theorem GraphTextI_c (w : World) (N : Int) (A : Option Addr) (n : Nat) (c : Nat) (es : List (Int × Int)) (hA : At w A (cells fE es)) (eA : es.length = n) (lA : n ≤ c) (hs : es.length ≤ 1048576) (hN : N ≤ 9223372036854775807) : Calls Tryd.prog 10 #[.agg #[.int .i64 (N), .slice A (n) (c)]] w (Ret fun rv w' => rv = .string (bstr (gtxV N es)) ∧ New w w' []) := by
  have oA := hA.atB
  subst eA
  refine fn_enter (args := [.agg #[.int .i64 (N), .slice A (es.length) (c)]]) Tryd.func10 rfl Tryd.ntmps10 rfl (SS.start w) ?_
  refine cw_seq ?_
  refine cw_region ?_
  refine wl_r (or_box rfl rfl) rfl rfl (kt1 rfl (fun g1 => ?_))
  refine wl_v (ov_assign rfl) rfl rfl rfl ?_
  refine wl_nil ?_
  refine ce_then ?_
  refine cw_seq ?_
  refine cw_seq ?_
  refine cw_region ?_
  refine wl_v (ov_loadAgg (vs := [.int .i64 (N), .slice A (es.length) (c)]) tI29 (holds_blk (List.Mem.head _)) rfl some_lit rfl rfl) rfl rfl rfl ?_
  refine wl_r (or_call (fv := []) (vs := [.agg #[.int .i64 (N), .slice A (es.length) (c)]]) (cs := []) en26 rfl rfl (call_v (fun w hw => validGraphI_c w N A es.length c es ((holds_old oA) w hw) rfl lA (by first | assumption | omega | (simp; omega)) (by first | assumption | omega | (simp; omega))))) rfl rfl (kt_if rfl (fun c7 => ?_) (fun c7 => ?_))
  ·
    refine wl_v (ov_not rfl) rfl rfl rfl ?_
    refine wl_nil ?_
    refine ce_then ?_
    refine cw_false rfl ?_
    refine cw_skip ?_
    refine ce_then ?_
    refine cw_seq ?_
    obtain ⟨m, rfl⟩ := Int.eq_ofNat_of_zero_le (show 0 ≤ N from c7.2.1)
    have hg : Gr m es := by have h9 := c7.gr; rwa [Int.toNat_natCast] at h9
    have hm : m ≤ 7 := by have h9 := c7.2.2; omega
    have hel := hg.len (by omega)
    refine cw_region ?_
    refine wl_v (ov_assign rfl) rfl rfl rfl ?_
    refine wl_nil ?_
    refine ce_then ?_
    refine cw_seq ?_
    refine cw_seq ?_
    refine ct_none fS 9 1 ?_
    refine cw_region ?_
    refine wl_v (ov_fieldAddr fI29_1 some_lit rfl) rfl rfl rfl ?_
    refine wl_v (ov_load tI27 (holds_blk (List.Mem.tail _ (List.Mem.head _))) rfl rfl) rfl rfl rfl ?_
    refine wl_v (ov_len (sliceI_spec sI27) rfl) rfl rfl rfl ?_
    refine wl_v (ov_move rfl) rfl rfl rfl ?_
    refine wl_nil ?_
    refine ce_then ?_
    refine cw_block ?_
    refine cw_loop3 (fun (k : Nat) (A3 : Option Addr) (c3 : Nat) => [(1, elp (some ⟨g1, 0, none⟩) (0)), (2, .string (bstr [])), (10, .slice A (es.length) (c)), (11, .int .i64 (((es.length : Nat) : Int))), (3, .slice A3 (k) (c3)), (12, .int .i64 (((k : Nat) : Int)))]) (fun (k : Nat) (A3 : Option Addr) (c3 : Nat) => [row 9 1 A3 (k) (c3) (cells fS ((es.take k).map (fun e => bstr (dg2 e)))), blk g1 [.int .i64 (((m : Nat) : Int)), .slice A (es.length) (c)] 29]) (fun (k : Nat) (A3 : Option Addr) (c3 : Nat) => k ≤ es.length ∧ k ≤ c3) (fun (k : Nat) (A3 : Option Addr) (c3 : Nat) => es.length - k) 0 none 0 ⟨by omega, Nat.le_refl _⟩ (.cons rfl (.cons rfl (.cons rfl (.cons rfl (.cons rfl (.cons (congrArg (fun z => some (Value.int .i64 z)) (show 0 = ((0 : Nat) : Int) by first | omega | rfl | (simp; done))) (.nil))))))) (.consE (show row 9 1 none (0) (0) (cells fS ([])) = row 9 1 none (0) (0) (cells fS ((es.take 0).map (fun e => bstr (dg2 e)))) by rfl) (.head) (.cons (.head) (.nil))) ?_
    intro R0 k A3 c3 hk hR0
    obtain ⟨hk1, hk2⟩ := hk
    refine cw_seq ?_
    refine cw_region ?_
    refine wl_if (ov_lss rfl rfl) rfl rfl rfl (fun c13 => ?_) (fun c13 => ?_)
    ·
      have hek := hg.inr _ (getD_mem (xs := es) (k := k) (0, 0) (by omega))
      refine wl_nil ?_
      refine ce_then ?_
      refine cw_seq ?_
      refine cw_true rfl ?_
      refine cw_skip ?_
      refine ce_then ?_
      refine cw_seq ?_
      refine cw_block ?_
      refine cw_seq ?_
      refine cw_region ?_
      refine wl_v (ov_index (k := k) (c := c) sI27 tI49 rfl rfl (some_holds (q := k * 2) (holds_old oA) (by rw [cells_length fE_len]; have hlt : k < es.length := (by omega); omega)) (show k < es.length from (by omega))) rfl rfl rfl ?_
      refine wl_v (ov_loadAgg (vs := [.int .i64 ((es.getD k (0, 0)).1), .int .i64 ((es.getD k (0, 0)).2)]) tI49 (holds_old oA) rfl (some_holds (q := k * 2) (holds_old oA) (by rw [cells_length fE_len]; have hlt : k < es.length := (by omega); omega)) (cells_elem fE_len (0, 0) (show k < es.length from (by omega))) rfl) rfl rfl rfl ?_
      refine wl_r (or_alloc tI49 rfl) rfl rfl (kt1 rfl (fun g5 => ?_))
      refine wl_r0 (or_store_blk (vs := [.int .i64 ((es.getD k (0, 0)).1), .int .i64 ((es.getD k (0, 0)).2)]) (cs' := [.int .i64 ((es.getD k (0, 0)).1), .int .i64 ((es.getD k (0, 0)).2)]) (.head) tI49 rfl rfl rfl rfl (Nat.le_of_ble_eq_true rfl) rfl) rfl rfl (kn0 ?_)
      refine wl_nil ?_
      refine ce_then ?_
      refine cw_region ?_
      refine wl_v (ov_move rfl) rfl rfl rfl ?_
      refine wl_v (ov_fieldAddr fI49_0 some_lit rfl) rfl rfl rfl ?_
      refine wl_v (ov_load tI3 (holds_blk (List.Mem.head _)) rfl rfl) rfl rfl rfl ?_
      refine wl_v (ov_fieldAddr fI49_1 some_lit rfl) rfl rfl rfl ?_
      refine wl_v (ov_load tI3 (holds_blk (List.Mem.head _)) rfl rfl) rfl rfl rfl ?_
      refine wl_r (or_buildSlice (e := 3) (size := 1) (is := [0, 1]) (vs := [.int .i64 ((es.getD k (0, 0)).1), .int .i64 ((es.getD k (0, 0)).2)]) (cs := cells fI ([(es.getD k (0, 0)).1, (es.getD k (0, 0)).2])) rfl rfl rfl (by decide) (fun _ => by kernel_rfl)) rfl rfl (kt1 rfl (fun g21 => ?_))
      refine wl_r (or_call (fv := []) (vs := [.slice (some ⟨g21, 0, none⟩) (2) (2)]) (cs := []) en27 rfl rfl (call_v (fun w hw => digits_c w (some ⟨g21, 0, none⟩) 2 2 ([(es.getD k (0, 0)).1, (es.getD k (0, 0)).2]) ((holds_row (List.Mem.head _)) w hw) (by first | rfl | (simp; done) | (simp; omega)) (Nat.le_refl _) (by show 2 ≤ 1000; omega) (fun x hx => by simp only [List.mem_cons, List.not_mem_nil, or_false] at hx; rcases hx with rfl | rfl <;> omega)))) rfl rfl (kt0 rfl ?_)
      refine wl_r (or_buildSlice (e := 9) (size := 1) (is := [0]) (vs := [.string (bstr (dig ([(es.getD k (0, 0)).1, (es.getD k (0, 0)).2])))]) (cs := cells fS ([bstr (dig ([(es.getD k (0, 0)).1, (es.getD k (0, 0)).2]))])) rfl rfl rfl (by decide) (fun _ => by kernel_rfl)) rfl rfl (kt1 rfl (fun g23 => ?_))
      refine wl_r (or_append (c2 := 1) sI47 tI9 rfl (by decide) rfl rfl (.tail (.tail (.tail .head))) (holds_row (List.Mem.head _)) (by rw [cells_length fS_len]; try simp) (one_cells fS_one _) cells_append (by omega) (by omega)) rfl rfl (kt2p rfl (fun A24 c24 h24 => ?_))
      refine wl_v (ov_assign rfl) rfl rfl rfl ?_
      refine wl_nil ?_
      refine ce_block ?_
      refine ce_then ?_
      refine cw_region ?_
      refine wl_v (ov_add (r := ((k + 1 : Nat) : Int)) rfl rfl rfl (by omega)) rfl rfl rfl ?_
      refine wl_v (ov_move rfl) rfl rfl rfl ?_
      refine wl_nil ?_
      exact fun ac_ w_ hs_ => hR0 (k + 1) A24 c24 ⟨by omega, h24⟩ (by omega) ac_ w_ (hs_.weaken (.cons rfl (.cons rfl (.cons rfl (.cons rfl (.cons rfl (.cons rfl (.nil))))))) (.consE (show row 9 1 A24 (k + 1) (c24) (cells fS (((es.take k).map (fun e => bstr (dg2 e))) ++ ([bstr (dig ([(es.getD k (0, 0)).1, (es.getD k (0, 0)).2]))]))) = row 9 1 A24 ((k + 1)) (c24) (cells fS ((es.take (k + 1)).map (fun e => bstr (dg2 e)))) by rw [take_succ (0, 0) (by omega), List.map_append, dig_two] <;> rfl) (.head) (.cons (.tail (.tail (.tail .head))) (.nil))))
    ·
      have hjl := jn_len (es := es.take k) (fun e he => by have := hg.inr e (List.mem_of_mem_take he); omega) (by rw [List.length_take]; omega)
      have hd1 := dg_len (show ((m : Nat) : Int) < 100 from by omega)
      refine wl_nil ?_
      refine ce_then ?_
      refine cw_seq ?_
      refine cw_false rfl ?_
      refine cw_exit ?_
      refine ce_then_exit ?_
      refine ce_then_exit ?_
      refine ce_hit ?_
      refine ce_then ?_
      refine cw_seq ?_
      refine cw_region ?_
      refine wl_v (ov_fieldAddr fI29_0 some_lit rfl) rfl rfl rfl ?_
      refine wl_v (ov_load tI3 (holds_blk (List.Mem.tail _ (List.Mem.head _))) rfl rfl) rfl rfl rfl ?_
      refine wl_r (or_buildSlice (e := 3) (size := 1) (is := [0]) (vs := [.int .i64 (((m : Nat) : Int))]) (cs := cells fI ([((m : Nat) : Int)])) rfl rfl rfl (by decide) (fun _ => by kernel_rfl)) rfl rfl (kt1 rfl (fun g28 => ?_))
      refine wl_r (or_call (fv := []) (vs := [.slice (some ⟨g28, 0, none⟩) (1) (1)]) (cs := []) en27 rfl rfl (call_v (fun w hw => digits_c w (some ⟨g28, 0, none⟩) 1 1 ([((m : Nat) : Int)]) ((holds_row (List.Mem.head _)) w hw) (by first | rfl | (simp; done) | (simp; omega)) (Nat.le_refl _) (by show 1 ≤ 1000; omega) (fun x hx => by rw [List.mem_singleton] at hx; subst hx; omega)))) rfl rfl (kt0 rfl ?_)
      refine wl_v (ov_adds (r := bstr ((dig ([((m : Nat) : Int)])) ++ ([58]))) rfl rfl (bstr_append _ _) (by rw [bstr_size, dig_single]; show _ + 1 ≤ 1000000; omega)) rfl rfl rfl ?_
      refine wl_v (ov_move rfl) rfl rfl rfl ?_
      refine ct_fact (row_addr (List.Mem.tail _ (List.Mem.head _))) (fun hzj => ?_)
      refine wl_r (or_call (fv := []) (vs := [.slice A3 (k) (c3), .string (bstr [44])]) (cs := []) en28 rfl rfl (call_v (fun w hw => join_c w A3 k c3 ((es.take k).map (fun e => bstr (dg2 e))) (bstr [44]) ((holds_row (List.Mem.tail _ (List.Mem.head _))) w hw) (by rw [List.length_map, List.length_take]; omega) hk2 (by omega) hzj (by omega)))) rfl rfl (kt0 rfl ?_)
      refine wl_v (ov_adds (r := bstr (((dig ([((m : Nat) : Int)])) ++ ([58])) ++ (Go.Lib.join (((es.take k).map (fun e => bstr (dg2 e))).map (·.data.toList)) (bstr [44]).data.toList))) rfl rfl (bstr_append _ _) (by rw [bstr_size, bstr_size, List.length_append, dig_single]; show _ + 1 + _ ≤ _; omega)) rfl rfl rfl ?_
      refine wl_v (ov_assign rfl) rfl rfl rfl ?_
      refine wl_nil ?_
      refine ce_then ?_
      refine cw_ret ?_
      refine ce_results (v := .string (bstr (((dig ([((m : Nat) : Int)])) ++ ([58])) ++ (Go.Lib.join (((es.take k).map (fun e => bstr (dg2 e))).map (·.data.toList)) (bstr [44]).data.toList)))) (res1 rfl (rv_t rfl)) (fun w' hw => ?_)
      exact ⟨(by rw [gtxV, if_pos c7, gtx, dig_single, List.take_of_length_le (by omega), map_bytes] <;> rfl), (Keep.nil.ss hw).to_new⟩
  ·
    refine wl_v (ov_not rfl) rfl rfl rfl ?_
    refine wl_nil ?_
    refine ce_then ?_
    refine cw_true rfl ?_
    refine cw_seq ?_
    refine cw_region ?_
    refine wl_v (ov_assign rfl) rfl rfl rfl ?_
    refine wl_nil ?_
    refine ce_then ?_
    refine cw_ret ?_
    refine ce_then_ret ?_
    refine ce_results (v := .string (bstr [])) (res1 rfl (rv_t rfl)) (fun w' hw => ?_)
    exact ⟨(by rw [gtxV, if_neg c7]), (Keep.nil.ss hw).to_new⟩
set_option maxRecDepth 100000 in
theorem graphTextS_c (w : World) (m : Nat) (A : Option Addr) (n : Nat) (c : Nat) (es : List (Int × Int)) (hA : At w A (cells fE es)) (eA : es.length = n) (lA : n ≤ c) (hg : Gr m es) (hm : m ≤ 7) : Calls Tryd.prog 24 #[.agg #[.int .i64 (((m : Nat) : Int)), .slice A (n) (c)]] w (Ret fun rv w' => rv = .string (bstr (gtx ((m : Nat) : Int) es)) ∧ New w w' []) := by
  have oA := hA.atB
  subst eA
  have hel := hg.len (by omega)
  have hd1 := dg_len (show ((m : Nat) : Int) < 100 from by omega)
  refine fn_enter (args := [.agg #[.int .i64 (((m : Nat) : Int)), .slice A (es.length) (c)]]) Tryd.func24 rfl Tryd.ntmps24 rfl (SS.start w) ?_
  refine cw_seq ?_
  refine cw_region ?_
  refine wl_r (or_box rfl rfl) rfl rfl (kt1 rfl (fun g1 => ?_))
  refine wl_v (ov_assign rfl) rfl rfl rfl ?_
  refine wl_nil ?_
  refine ce_then ?_
  refine cw_seq ?_
  refine cw_region ?_
  refine wl_v (ov_fieldAddr fI29_0 some_lit rfl) rfl rfl rfl ?_
  refine wl_v (ov_load tI3 (holds_blk (List.Mem.head _)) rfl rfl) rfl rfl rfl ?_
  refine wl_r (or_call (fv := []) (vs := [.int .i64 (((m : Nat) : Int))]) (cs := []) en42 rfl rfl (call_v (fun w hw => digit_c w ((m : Nat) : Int) (by omega)))) rfl rfl (kt0 rfl ?_)
  refine wl_v (ov_adds (r := bstr ((dg ((m : Nat) : Int)) ++ ([58]))) rfl rfl (bstr_append _ _) (by rw [bstr_size]; show _ + 1 ≤ 1000000; omega)) rfl rfl rfl ?_
  refine wl_v (ov_assign rfl) rfl rfl rfl ?_
  refine wl_nil ?_
  refine ce_then ?_
  refine cw_seq ?_
  refine cw_seq ?_
  refine cw_region ?_
  refine wl_v (ov_assign rfl) rfl rfl rfl ?_
  refine wl_nil ?_
  refine ce_then ?_
  refine cw_block ?_
  refine cw_loop1 (fun (k : Nat) => [(1, elp (some ⟨g1, 0, none⟩) (0)), (2, .string (bstr [])), (3, .string (bstr (gtx ((m : Nat) : Int) (es.take k)))), (4, .int .i64 (((k : Nat) : Int)))]) (fun (k : Nat) => [blk g1 [.int .i64 (((m : Nat) : Int)), .slice A (es.length) (c)] 29]) (fun (k : Nat) => k ≤ es.length) (fun (k : Nat) => es.length - k) 0 (by omega) (.cons rfl (.cons rfl (.cons (congrArg (fun z => some (Value.string z)) (show bstr ((dg ((m : Nat) : Int)) ++ ([58])) = bstr (gtx ((m : Nat) : Int) (es.take 0)) from (by rw [gtx_zero]))) (.cons (congrArg (fun z => some (Value.int .i64 z)) (show 0 = ((0 : Nat) : Int) by first | omega | rfl | (simp; done))) (.nil))))) (.cons (.head) (.nil)) ?_
  intro R0 k hk hR0
  have hgl := gtx_len (N := ((m : Nat) : Int)) (es := es.take k) (by omega) (fun e he => by have := hg.inr e (List.mem_of_mem_take he); omega)
  have htl : (es.take k).length ≤ es.length := by rw [List.length_take]; omega
  refine cw_seq ?_
  refine cw_seq ?_
  refine cw_region ?_
  refine wl_v (ov_move rfl) rfl rfl rfl ?_
  refine wl_v (ov_fieldAddr fI29_1 some_lit rfl) rfl rfl rfl ?_
  refine wl_v (ov_load tI27 (holds_blk (List.Mem.head _)) rfl rfl) rfl rfl rfl ?_
  refine wl_v (ov_len (sliceI_spec sI27) rfl) rfl rfl rfl ?_
  refine wl_if (ov_lss rfl rfl) rfl rfl rfl (fun c13 => ?_) (fun c13 => ?_)
  ·
    have hek := hg.inr _ (getD_mem (xs := es) (k := k) (0, 0) (by omega))
    have hd2 := dg_len (show (es.getD k (0, 0)).1 < 100 from by omega)
    have hd3 := dg_len (show (es.getD k (0, 0)).2 < 100 from by omega)
    refine wl_nil ?_
    refine ce_then ?_
    refine cw_true rfl ?_
    refine cw_skip ?_
    refine ce_then ?_
    refine cw_seq ?_
    refine cw_block ?_
    refine cw_seq ?_
    refine cw_seq ?_
    refine cw_region ?_
    refine wl_v (ov_move rfl) rfl rfl rfl ?_
    refine wl_if (ov_gtr rfl rfl) rfl rfl rfl (fun c17 => ?_) (fun c17 => ?_)
    ·
      refine wl_nil ?_
      refine ce_then ?_
      refine cw_true rfl ?_
      refine cw_region ?_
      refine wl_v (ov_move rfl) rfl rfl rfl ?_
      refine wl_v (ov_adds (r := bstr ((gtx ((m : Nat) : Int) (es.take k)) ++ ([44]))) rfl rfl (bstr_append _ _) (by rw [bstr_size]; show _ + 1 ≤ 1000000; omega)) rfl rfl rfl ?_
      refine wl_v (ov_assign rfl) rfl rfl rfl ?_
      refine wl_nil ?_
      refine ce_then ?_
      refine cw_draw mixO [] (.cons (.head) (.nil)) rfl ?_
      refine wg_takep (i := 0) rfl (ov_move rfl) rfl rfl rfl (by kernel_rfl) (by kernel_rfl) (by kernel_rfl) rfl ?_
      refine wg_take (i := 1) rfl (ov_fieldAddr fI29_1 some_lit rfl) rfl rfl rfl (by kernel_rfl) (by kernel_rfl) (by kernel_rfl) (by kernel_rfl) ?_
      refine wg_take (i := 2) rfl (ov_load tI27 (holds_blk (List.Mem.head _)) rfl rfl) rfl rfl rfl (by kernel_rfl) (by kernel_rfl) (by kernel_rfl) (by kernel_rfl) ?_
      refine wg_takep (i := 3) rfl (ov_move rfl) rfl rfl rfl (by kernel_rfl) (by kernel_rfl) (by kernel_rfl) rfl ?_
      refine wg_take (i := 4) rfl (ov_index (k := k) (c := c) sI27 tI49 rfl rfl (some_holds (q := k * 2) (holds_old oA) (by rw [cells_length fE_len]; have hlt : k < es.length := (by omega); omega)) (show k < es.length from (by omega))) rfl rfl rfl (by kernel_rfl) (by kernel_rfl) (by kernel_rfl) (by kernel_rfl) ?_
      refine wg_take (i := 5) rfl (ov_fieldAddr fI49_0 (some_holds (q := k * 2) (holds_old oA) (by rw [cells_length fE_len]; have hlt : k < es.length := (by omega); omega)) rfl) rfl rfl rfl (by kernel_rfl) (by kernel_rfl) (by kernel_rfl) (by kernel_rfl) ?_
      refine wg_take (i := 6) rfl (ov_load tI3 (holds_old oA) rfl (get_fE0 (show k < es.length from (by omega)))) rfl rfl rfl (by kernel_rfl) (by kernel_rfl) (by kernel_rfl) (by kernel_rfl) ?_
      refine wg_take (i := 9) rfl (ov_fieldAddr fI29_1 some_lit rfl) rfl rfl rfl (by kernel_rfl) (by kernel_rfl) (by kernel_rfl) (by kernel_rfl) ?_
      refine wg_take (i := 10) rfl (ov_load tI27 (holds_blk (List.Mem.head _)) rfl rfl) rfl rfl rfl (by kernel_rfl) (by kernel_rfl) (by kernel_rfl) (by kernel_rfl) ?_
      refine wg_takep (i := 11) rfl (ov_move rfl) rfl rfl rfl (by kernel_rfl) (by kernel_rfl) (by kernel_rfl) rfl ?_
      refine wg_take (i := 12) rfl (ov_index (k := k) (c := c) sI27 tI49 rfl rfl (some_holds (q := k * 2) (holds_old oA) (by rw [cells_length fE_len]; have hlt : k < es.length := (by omega); omega)) (show k < es.length from (by omega))) rfl rfl rfl (by kernel_rfl) (by kernel_rfl) (by kernel_rfl) (by kernel_rfl) ?_
      refine wg_take (i := 13) rfl (ov_fieldAddr fI49_1 (some_holds (q := k * 2) (holds_old oA) (by rw [cells_length fE_len]; have hlt : k < es.length := (by omega); omega)) rfl) rfl rfl rfl (by kernel_rfl) (by kernel_rfl) (by kernel_rfl) (by kernel_rfl) ?_
      refine wg_take (i := 14) rfl (ov_load tI3 (holds_old oA) rfl (get_fE1 (show k < es.length from (by omega)))) rfl rfl rfl (by kernel_rfl) (by kernel_rfl) (by kernel_rfl) (by kernel_rfl) ?_
      refine wg_one (i := 7) (by kernel_rfl) ?_
      refine go_r rfl rfl rfl rfl (or_call (fv := []) (vs := [.int .i64 ((es.getD k (0, 0)).1)]) (cs := []) en42 rfl rfl (call_v (fun w hw => digit_c w ((es.getD k (0, 0)).1) (by omega)))) (kt0 rfl ?_)
      refine gk (.cons (.head) (.nil)) ?_
      refine wg_takep (i := 8) rfl (ov_adds (r := bstr (((gtx ((m : Nat) : Int) (es.take k)) ++ ([44])) ++ (dg ((es.getD k (0, 0)).1)))) rfl rfl (bstr_append _ _) (by simp only [bstr_size, List.length_append, List.length_cons, List.length_nil]; omega)) rfl rfl rfl (by kernel_rfl) (by kernel_rfl) (by kernel_rfl) rfl ?_
      refine wg_one (i := 15) (by kernel_rfl) ?_
      refine go_r rfl rfl rfl rfl (or_call (fv := []) (vs := [.int .i64 ((es.getD k (0, 0)).2)]) (cs := []) en42 rfl rfl (call_v (fun w hw => digit_c w ((es.getD k (0, 0)).2) (by omega)))) (kt0 rfl ?_)
      refine gk (.cons (.head) (.nil)) ?_
      refine wg_takep (i := 16) rfl (ov_adds (r := bstr ((((gtx ((m : Nat) : Int) (es.take k)) ++ ([44])) ++ (dg ((es.getD k (0, 0)).1))) ++ (dg ((es.getD k (0, 0)).2)))) rfl rfl (bstr_append _ _) (by simp only [bstr_size, List.length_append, List.length_cons, List.length_nil]; omega)) rfl rfl rfl (by kernel_rfl) (by kernel_rfl) (by kernel_rfl) rfl ?_
      refine wg_takep (i := 17) rfl (ov_assign rfl) rfl rfl rfl (by kernel_rfl) (by kernel_rfl) (by kernel_rfl) rfl ?_
      refine wg_done (by kernel_rfl) ?_
      refine ce_block ?_
      refine ce_then ?_
      refine cw_region ?_
      refine wl_v (ov_move rfl) rfl rfl rfl ?_
      refine wl_v (ov_add (r := ((k + 1 : Nat) : Int)) rfl rfl rfl (by omega)) rfl rfl rfl ?_
      refine wl_v (ov_assign rfl) rfl rfl rfl ?_
      refine wl_nil ?_
      exact fun ac_ w_ hs_ => hR0 (k + 1) (by omega) (by omega) ac_ w_ (hs_.weaken (.cons rfl (.cons rfl (.cons (congrArg (fun z => some (Value.string z)) (show bstr ((((gtx ((m : Nat) : Int) (es.take k)) ++ ([44])) ++ (dg ((es.getD k (0, 0)).1))) ++ (dg ((es.getD k (0, 0)).2))) = bstr (gtx ((m : Nat) : Int) (es.take (k + 1))) from (by rw [gtx_succ (by omega) (by omega)]))) (.cons rfl (.nil))))) (.cons (.head) (.nil)))
    ·
      refine wl_nil ?_
      refine ce_then ?_
      refine cw_false rfl ?_
      refine cw_skip ?_
      refine ce_then ?_
      refine cw_draw mixO [] (.cons (.head) (.nil)) rfl ?_
      refine wg_takep (i := 0) rfl (ov_move rfl) rfl rfl rfl (by kernel_rfl) (by kernel_rfl) (by kernel_rfl) rfl ?_
      refine wg_take (i := 1) rfl (ov_fieldAddr fI29_1 some_lit rfl) rfl rfl rfl (by kernel_rfl) (by kernel_rfl) (by kernel_rfl) (by kernel_rfl) ?_
      refine wg_take (i := 2) rfl (ov_load tI27 (holds_blk (List.Mem.head _)) rfl rfl) rfl rfl rfl (by kernel_rfl) (by kernel_rfl) (by kernel_rfl) (by kernel_rfl) ?_
      refine wg_takep (i := 3) rfl (ov_move rfl) rfl rfl rfl (by kernel_rfl) (by kernel_rfl) (by kernel_rfl) rfl ?_
      refine wg_take (i := 4) rfl (ov_index (k := k) (c := c) sI27 tI49 rfl rfl (some_holds (q := k * 2) (holds_old oA) (by rw [cells_length fE_len]; have hlt : k < es.length := (by omega); omega)) (show k < es.length from (by omega))) rfl rfl rfl (by kernel_rfl) (by kernel_rfl) (by kernel_rfl) (by kernel_rfl) ?_
      refine wg_take (i := 5) rfl (ov_fieldAddr fI49_0 (some_holds (q := k * 2) (holds_old oA) (by rw [cells_length fE_len]; have hlt : k < es.length := (by omega); omega)) rfl) rfl rfl rfl (by kernel_rfl) (by kernel_rfl) (by kernel_rfl) (by kernel_rfl) ?_
      refine wg_take (i := 6) rfl (ov_load tI3 (holds_old oA) rfl (get_fE0 (show k < es.length from (by omega)))) rfl rfl rfl (by kernel_rfl) (by kernel_rfl) (by kernel_rfl) (by kernel_rfl) ?_
      refine wg_take (i := 9) rfl (ov_fieldAddr fI29_1 some_lit rfl) rfl rfl rfl (by kernel_rfl) (by kernel_rfl) (by kernel_rfl) (by kernel_rfl) ?_
      refine wg_take (i := 10) rfl (ov_load tI27 (holds_blk (List.Mem.head _)) rfl rfl) rfl rfl rfl (by kernel_rfl) (by kernel_rfl) (by kernel_rfl) (by kernel_rfl) ?_
      refine wg_takep (i := 11) rfl (ov_move rfl) rfl rfl rfl (by kernel_rfl) (by kernel_rfl) (by kernel_rfl) rfl ?_
      refine wg_take (i := 12) rfl (ov_index (k := k) (c := c) sI27 tI49 rfl rfl (some_holds (q := k * 2) (holds_old oA) (by rw [cells_length fE_len]; have hlt : k < es.length := (by omega); omega)) (show k < es.length from (by omega))) rfl rfl rfl (by kernel_rfl) (by kernel_rfl) (by kernel_rfl) (by kernel_rfl) ?_
      refine wg_take (i := 13) rfl (ov_fieldAddr fI49_1 (some_holds (q := k * 2) (holds_old oA) (by rw [cells_length fE_len]; have hlt : k < es.length := (by omega); omega)) rfl) rfl rfl rfl (by kernel_rfl) (by kernel_rfl) (by kernel_rfl) (by kernel_rfl) ?_
      refine wg_take (i := 14) rfl (ov_load tI3 (holds_old oA) rfl (get_fE1 (show k < es.length from (by omega)))) rfl rfl rfl (by kernel_rfl) (by kernel_rfl) (by kernel_rfl) (by kernel_rfl) ?_
      refine wg_one (i := 7) (by kernel_rfl) ?_
      refine go_r rfl rfl rfl rfl (or_call (fv := []) (vs := [.int .i64 ((es.getD k (0, 0)).1)]) (cs := []) en42 rfl rfl (call_v (fun w hw => digit_c w ((es.getD k (0, 0)).1) (by omega)))) (kt0 rfl ?_)
      refine gk (.cons (.head) (.nil)) ?_
      refine wg_takep (i := 8) rfl (ov_adds (r := bstr ((gtx ((m : Nat) : Int) (es.take k)) ++ (dg ((es.getD k (0, 0)).1)))) rfl rfl (bstr_append _ _) (by simp only [bstr_size, List.length_append, List.length_cons, List.length_nil]; omega)) rfl rfl rfl (by kernel_rfl) (by kernel_rfl) (by kernel_rfl) rfl ?_
      refine wg_one (i := 15) (by kernel_rfl) ?_
      refine go_r rfl rfl rfl rfl (or_call (fv := []) (vs := [.int .i64 ((es.getD k (0, 0)).2)]) (cs := []) en42 rfl rfl (call_v (fun w hw => digit_c w ((es.getD k (0, 0)).2) (by omega)))) (kt0 rfl ?_)
      refine gk (.cons (.head) (.nil)) ?_
      refine wg_takep (i := 16) rfl (ov_adds (r := bstr (((gtx ((m : Nat) : Int) (es.take k)) ++ (dg ((es.getD k (0, 0)).1))) ++ (dg ((es.getD k (0, 0)).2)))) rfl rfl (bstr_append _ _) (by simp only [bstr_size, List.length_append, List.length_cons, List.length_nil]; omega)) rfl rfl rfl (by kernel_rfl) (by kernel_rfl) (by kernel_rfl) rfl ?_
      refine wg_takep (i := 17) rfl (ov_assign rfl) rfl rfl rfl (by kernel_rfl) (by kernel_rfl) (by kernel_rfl) rfl ?_
      refine wg_done (by kernel_rfl) ?_
      refine ce_block ?_
      refine ce_then ?_
      refine cw_region ?_
      refine wl_v (ov_move rfl) rfl rfl rfl ?_
      refine wl_v (ov_add (r := ((k + 1 : Nat) : Int)) rfl rfl rfl (by omega)) rfl rfl rfl ?_
      refine wl_v (ov_assign rfl) rfl rfl rfl ?_
      refine wl_nil ?_
      exact fun ac_ w_ hs_ => hR0 (k + 1) (by omega) (by omega) ac_ w_ (hs_.weaken (.cons rfl (.cons rfl (.cons (congrArg (fun z => some (Value.string z)) (show bstr (((gtx ((m : Nat) : Int) (es.take k)) ++ (dg ((es.getD k (0, 0)).1))) ++ (dg ((es.getD k (0, 0)).2))) = bstr (gtx ((m : Nat) : Int) (es.take (k + 1))) from (by have hk0 : k = 0 := (by omega); subst hk0; rw [gtx_first (by omega)]))) (.cons rfl (.nil))))) (.cons (.head) (.nil)))
  ·
    refine wl_nil ?_
    refine ce_then ?_
    refine cw_false rfl ?_
    refine cw_exit ?_
    refine ce_then_exit ?_
    refine ce_then_exit ?_
    refine ce_hit ?_
    refine ce_then ?_
    refine cw_seq ?_
    refine cw_region ?_
    refine wl_v (ov_move rfl) rfl rfl rfl ?_
    refine wl_v (ov_assign rfl) rfl rfl rfl ?_
    refine wl_nil ?_
    refine ce_then ?_
    refine cw_ret ?_
    refine ce_results (v := .string (bstr (gtx ((m : Nat) : Int) (es.take k)))) (res1 rfl (rv_t rfl)) (fun w' hw => ?_)
    exact ⟨(by rw [List.take_of_length_le (by omega)]), (Keep.nil.ss hw).to_new⟩
set_option maxRecDepth 100000 in
theorem GraphTextS_c (w : World) (N : Int) (A : Option Addr) (n : Nat) (c : Nat) (es : List (Int × Int)) (hA : At w A (cells fE es)) (eA : es.length = n) (lA : n ≤ c) (hs : es.length ≤ 1048576) : Calls Tryd.prog 8 #[.agg #[.int .i64 (N), .slice A (n) (c)]] w (Ret fun rv w' => rv = .string (bstr (gtxV N es)) ∧ New w w' []) := by
  have oA := hA.atB
  subst eA
  refine fn_enter (args := [.agg #[.int .i64 (N), .slice A (es.length) (c)]]) Tryd.func8 rfl Tryd.ntmps8 rfl (SS.start w) ?_
  refine cw_seq ?_
  refine cw_region ?_
  refine wl_r (or_box rfl rfl) rfl rfl (kt1 rfl (fun g1 => ?_))
  refine wl_v (ov_assign rfl) rfl rfl rfl ?_
  refine wl_nil ?_
  refine ce_then ?_
  refine cw_seq ?_
  refine cw_seq ?_
  refine cw_region ?_
  refine wl_v (ov_loadAgg (vs := [.int .i64 (N), .slice A (es.length) (c)]) tI29 (holds_blk (List.Mem.head _)) rfl some_lit rfl rfl) rfl rfl rfl ?_
  refine wl_r (or_call (fv := []) (vs := [.agg #[.int .i64 (N), .slice A (es.length) (c)]]) (cs := []) en23 rfl rfl (call_v (fun w hw => validGraphS_c w N A es.length c es ((holds_old oA) w hw) rfl lA (by first | assumption | omega | (simp; omega))))) rfl rfl (kt_if rfl (fun c4 => ?_) (fun c4 => ?_))
  ·
    refine wl_v (ov_not rfl) rfl rfl rfl ?_
    refine wl_nil ?_
    refine ce_then ?_
    refine cw_false rfl ?_
    refine cw_skip ?_
    refine ce_then ?_
    refine cw_seq ?_
    obtain ⟨m, rfl⟩ := Int.eq_ofNat_of_zero_le (show 0 ≤ N from c4.2.1)
    have hg : Gr m es := by have h9 := c4.gr; rwa [Int.toNat_natCast] at h9
    have hm : m ≤ 7 := by have h9 := c4.2.2; omega
    refine cw_region ?_
    refine wl_v (ov_loadAgg (vs := [.int .i64 (((m : Nat) : Int)), .slice A (es.length) (c)]) tI29 (holds_blk (List.Mem.head _)) rfl some_lit rfl rfl) rfl rfl rfl ?_
    refine wl_r (or_call (fv := []) (vs := [.agg #[.int .i64 (((m : Nat) : Int)), .slice A (es.length) (c)]]) (cs := []) en24 rfl rfl (call_v (fun w hw => graphTextS_c w m A es.length c es ((holds_old oA) w hw) rfl lA (by first | assumption | omega | (simp; omega)) (by first | assumption | omega | (simp; omega))))) rfl rfl (kt0 rfl ?_)
    refine wl_v (ov_assign rfl) rfl rfl rfl ?_
    refine wl_nil ?_
    refine ce_then ?_
    refine cw_ret ?_
    refine ce_results (v := .string (bstr (gtx ((m : Nat) : Int) es))) (res1 rfl (rv_t rfl)) (fun w' hw => ?_)
    exact ⟨(by rw [gtxV, if_pos c4]), (Keep.nil.ss hw).to_new⟩
  ·
    refine wl_v (ov_not rfl) rfl rfl rfl ?_
    refine wl_nil ?_
    refine ce_then ?_
    refine cw_true rfl ?_
    refine cw_seq ?_
    refine cw_region ?_
    refine wl_v (ov_assign rfl) rfl rfl rfl ?_
    refine wl_nil ?_
    refine ce_then ?_
    refine cw_ret ?_
    refine ce_then_ret ?_
    refine ce_results (v := .string (bstr [])) (res1 rfl (rv_t rfl)) (fun w' hw => ?_)
    exact ⟨(by rw [gtxV, if_neg c4]), (Keep.nil.ss hw).to_new⟩
end Go.Proofs.YthllnilddbdmaaaDoor.W52
