/- Walks of functions of the given program: each returns what its Lean function says and leaves the memory that was there as it was. Conditions: those of each theorem. -/
import Derived.Test.YtkkllkkjdbpjpaaSm
import Derived.Test.YtkkllkkjdbpjpaaProg
import Derived.Test.YtkkllkkjdbpjpaaPl
import Derived.Test.YtkkllkkjdbpjpaaPo
import Derived.Test.YtkkllkkjdbpjpaaPd
import Derived.Test.YtkkllkkjdbpjpaaPe
import Derived.Test.YtkkllkkjdbpjpaaPh
import Derived.Test.YtkkllkkjdbpjpaaPm
import Derived.Test.YtkkllkkjdbpjpaaPc
import Derived.Test.YtkkllkkjdbpjpaaPs
import Derived.Test.YtkkllkkjdbpjpaaPt
import Derived.Test.YtkkllkkjdbpjpaaPu
import Derived.Test.YtkkllkkjdbpjpaaPv
import Derived.Test.YtkkllkkjdbpjpaaPw
import Derived.Test.YtkkllkkjdbpjpaaPx
import Derived.Test.YtkkllkkjdbpjpaaPy
import Derived.Test.YtkkllkkjdbpjpaaPz
import Derived.Test.YtkkllkkjdbpjpaaPr
import Derived.Test.YtkkllkkjdbpjpaaPa
import Derived.Test.YtkkllkkjdbpjpaaPn
import Derived.Test.YtkkllkkjdbpjpaaPj
import Derived.Test.YtkkllkkjdbpjpaaPq
import Derived.Test.YtkkllkkjdbpjpaaSp
import Derived.Test.YtkkllkkjdbpjpaaPp
import Derived.Test.YtkkllkkjdbpjpaaSs
import Derived.Test.YtkkllkkjdbpjpaaSr
import Derived.Test.YtkkllkkjdbpjpaaPb
import Derived.Test.YtkkllkkjdbpjpaaSe
import Derived.Test.YtkkllkkjdbpjpaaSf
import Derived.Test.YtkkllkkjdbpjpaaT
import Derived.Test.YtkkllkkjdbpjpaaW2
import Derived.Test.YtkkllkkjdbpjpaaW3
import Derived.KernelRfl
namespace Go.Proofs.Ytkkllkkjdbpjpaa.W13
open Go.Sx Go.RowKit Go.Proofs.Ytkkllkkjdbpjpaa.T Go.Proofs.Ytkkllkkjdbpjpaa.W2 Go.Proofs.Ytkkllkkjdbpjpaa.W3
open Go.Plain
set_option linter.unusedVariables false
set_option maxRecDepth 100000 in
theorem cloneE_c (w : World) (A : Option Addr) (n : Nat) (c : Nat) (es : List (Int × Int)) (hA : At w A (cells fE es)) (eA : es.length = n) (lA : n ≤ c) (hs : es.length ≤ 1048576) : Calls Try.prog 92 #[.slice A (n) (c)] w (Ret fun rv w' => ∃ A2 c2, (n ≤ c2) ∧ rv = .slice A2 (n) (c2) ∧ New w w' [row 65 2 A2 (n) (c2) (cells fE es)]) := by
  have oA := hA.atB
  subst eA
  refine fn_enter (args := [.slice A (es.length) (c)]) Try.func92 rfl Try.ntmps92 rfl (SS.start w) ?_
  refine cw_seq ?_
  refine cw_region ?_
  refine wl_v (ov_assign rfl) rfl rfl rfl ?_
  refine wl_nil ?_
  refine ce_then ?_
  refine cw_seq ?_
  refine cw_seq ?_
  refine cw_region ?_
  refine wl_v (ov_move rfl) rfl rfl rfl ?_
  refine wl_if (ov_eqlnil sI23 rfl rfl) rfl rfl rfl (fun c4 => ?_) (fun c4 => ?_)
  ·
    subst c4; have hx0 := at_none fE_len (by decide) hA; subst hx0
    refine ct_none fE 65 2 ?_
    refine wl_nil ?_
    refine ce_then ?_
    refine cw_true rfl ?_
    refine cw_seq ?_
    refine cw_region ?_
    refine wl_v (ov_assign rfl) rfl rfl rfl ?_
    refine wl_nil ?_
    refine ce_then ?_
    refine cw_ret ?_
    refine ce_then_ret ?_
    refine ce_results (v := .slice none (0) (0)) (res1 rfl (rv_t rfl)) (fun w' hw => ?_)
    exact ⟨none, 0, (Nat.le_refl _), rfl, ((.cons (.head) (.nil) : Keep _ _).ss hw).to_new⟩
  ·
    refine wl_nil ?_
    refine ce_then ?_
    refine cw_false rfl ?_
    refine cw_skip ?_
    refine ce_then ?_
    refine cw_seq ?_
    refine cw_region ?_
    refine wl_r (or_buildSlice (e := 65) (size := 2) (is := []) (vs := []) (cs := cells fE ([])) rfl rfl rfl (by decide) (fun _ => by kernel_rfl)) rfl rfl (kt1 rfl (fun g5 => ?_))
    refine wl_v (ov_move rfl) rfl rfl rfl ?_
    refine wl_r (or_append (c2 := c) sI23 tI65 rfl (by decide) rfl rfl (.head) (holds_old oA) (by rw [cells_length fE_len]; try simp) (one_cells fE_one _) cells_append (by omega) (by omega)) rfl rfl (kt2p rfl (fun A7 c7 h7 => ?_))
    refine wl_v (ov_assign rfl) rfl rfl rfl ?_
    refine wl_nil ?_
    refine ce_then ?_
    refine cw_ret ?_
    refine ce_results (v := .slice A7 (0 + es.length) (c7)) (res1 rfl (rv_t rfl)) (fun w' hw => ?_)
    exact ⟨A7, c7, (by omega), (by simp), ((.consE (show row 65 2 A7 (0 + es.length) (c7) (cells fE (([]) ++ es)) = row 65 2 A7 (es.length) (c7) (cells fE es) by simp) (.head) (.nil) : Keep _ _).ss hw).to_new⟩
set_option maxRecDepth 100000 in
theorem clipE_c (w : World) (A : Option Addr) (n : Nat) (c : Nat) (es : List (Int × Int)) (hA : At w A (cells fE es)) (eA : es.length = n) (lA : n ≤ c) : Calls Try.prog 91 #[.slice A (n) (c)] w (Ret fun rv w' => rv = .slice A (n) (n) ∧ New w w' []) := by
  have oA := hA.atB
  subst eA
  refine fn_enter (args := [.slice A (es.length) (c)]) Try.func91 rfl Try.ntmps91 rfl (SS.start w) ?_
  refine cw_seq ?_
  refine cw_region ?_
  refine wl_v (ov_assign rfl) rfl rfl rfl ?_
  refine wl_nil ?_
  refine ce_then ?_
  refine cw_seq ?_
  refine cw_region ?_
  refine wl_v (ov_move rfl) rfl rfl rfl ?_
  refine wl_v (ov_move rfl) rfl rfl rfl ?_
  refine wl_v (ov_len (sliceI_spec sI23) rfl) rfl rfl rfl ?_
  refine wl_v (ov_move rfl) rfl rfl rfl ?_
  refine wl_v (ov_len (sliceI_spec sI23) rfl) rfl rfl rfl ?_
  refine wl_v (ov_slice_hm (h := es.length) (mx := es.length) sI23 tI65 rfl rfl rfl (Nat.le_refl _) lA) rfl rfl rfl ?_
  refine wl_v (ov_assign rfl) rfl rfl rfl ?_
  refine wl_nil ?_
  refine ce_then ?_
  refine cw_ret ?_
  refine ce_results (v := .slice A (es.length) (es.length)) (res1 rfl (rv_t rfl)) (fun w' hw => ?_)
  exact ⟨rfl, (Keep.nil.ss hw).to_new⟩
set_option maxRecDepth 100000 in
theorem cloneCE_c (w : World) (A : Option Addr) (n : Nat) (c : Nat) (es : List (Int × Int)) (hA : At w A (cells fE es)) (eA : es.length = n) (lA : n ≤ c) (hs : es.length ≤ 1048576) : Calls Try.prog 49 #[.slice A (n) (c)] w (Ret fun rv w' => ∃ A2 c2, (n ≤ c2) ∧ rv = .slice A2 (n) (n) ∧ New w w' [row 65 2 A2 (n) (c2) (cells fE es)]) := by
  have oA := hA.atB
  subst eA
  refine fn_enter (args := [.slice A (es.length) (c)]) Try.func49 rfl Try.ntmps49 rfl (SS.start w) ?_
  refine cw_seq ?_
  refine cw_region ?_
  refine wl_v (ov_assign rfl) rfl rfl rfl ?_
  refine wl_nil ?_
  refine ce_then ?_
  refine cw_seq ?_
  refine cw_region ?_
  refine wl_v (ov_move rfl) rfl rfl rfl ?_
  refine wl_r (or_call (fv := []) (vs := [.slice A (es.length) (c)]) (cs := []) en92 rfl rfl (call_x2 (fun w hw => cloneE_c w A es.length c es ((holds_old oA) w hw) rfl lA (by first | assumption | omega | (simp; omega))))) rfl rfl (kt2p rfl (fun A2_4 c2_4 h_4 => ?_))
  refine wl_r (or_call (fv := []) (vs := [.slice A2_4 (es.length) (c2_4)]) (cs := []) en91 rfl rfl (call_v (fun w hw => clipE_c w A2_4 es.length c2_4 es ((holds_row (List.Mem.head _)) w hw) rfl h_4))) rfl rfl (kt0 rfl ?_)
  refine wl_v (ov_assign rfl) rfl rfl rfl ?_
  refine wl_nil ?_
  refine ce_then ?_
  refine cw_ret ?_
  refine ce_results (v := .slice A2_4 (es.length) (es.length)) (res1 rfl (rv_t rfl)) (fun w' hw => ?_)
  exact ⟨A2_4, c2_4, h_4, rfl, ((.cons (.head) (.nil) : Keep _ _).ss hw).to_new⟩
set_option maxRecDepth 100000 in
theorem indexFuncE_c (w : World) (A : Option Addr) (n : Nat) (c : Nat) (es : List (Int × Int)) (Fc : FuncId) (cs : List Value) (p : Ed → Bool) (hA : At w A (cells fE es)) (eA : es.length = n) (lA : n ≤ c) (hs : es.length ≤ 1048576) (hen : Enters Try.prog Fc) (hf : ∀ x ∈ es, ∀ w', Below w.heap.size w w' → Calls Try.prog Fc ([] ++ [Value.agg #[.int .i64 x.1, .int .i64 x.2]] ++ cs).toArray w' (Ret fun v w'' => v = .bool (p x) ∧ New w' w'' [])) : Calls Try.prog 51 #[.slice A (n) (c), .func (.func Fc) #[] cs.toArray] w (Ret fun rv w' => rv = .int .i64 (idxF p es) ∧ New w w' []) := by
  have oA := hA.atB
  subst eA
  refine fn_enter (args := [.slice A (es.length) (c), .func (.func Fc) #[] cs.toArray]) Try.func51 rfl Try.ntmps51 rfl (SS.start w) ?_
  refine cw_seq ?_
  refine cw_region ?_
  refine wl_v (ov_assign rfl) rfl rfl rfl ?_
  refine wl_nil ?_
  refine ce_then ?_
  refine cw_seq ?_
  refine cw_seq ?_
  refine cw_region ?_
  refine wl_v (ov_move rfl) rfl rfl rfl ?_
  refine wl_v (ov_len (sliceI_spec sI23) rfl) rfl rfl rfl ?_
  refine wl_v (ov_move rfl) rfl rfl rfl ?_
  refine wl_nil ?_
  refine ce_then ?_
  refine cw_block ?_
  refine cw_loop1 (fun (k : Nat) => [(0, .slice A (es.length) (c)), (1, .func (.func Fc) #[] cs.toArray), (7, .int .i64 (((es.length : Nat) : Int))), (8, .int .i64 (((k : Nat) : Int)))]) (fun (k : Nat) => []) (fun (k : Nat) => k ≤ es.length ∧ ∀ x ∈ es.take k, p x = false) (fun (k : Nat) => es.length - k) 0 ⟨by omega, by simp⟩ (.cons rfl (.cons rfl (.cons rfl (.cons (congrArg (fun z => some (Value.int .i64 z)) (show 0 = ((0 : Nat) : Int) by first | omega | rfl | (simp; done))) (.nil))))) (.nil) ?_
  intro R0 k hk hR0
  obtain ⟨hk1, hk2⟩ := hk
  refine cw_seq ?_
  refine cw_region ?_
  refine wl_if (ov_lss rfl rfl) rfl rfl rfl (fun c9 => ?_) (fun c9 => ?_)
  ·
    refine wl_nil ?_
    refine ce_then ?_
    refine cw_seq ?_
    refine cw_true rfl ?_
    refine cw_skip ?_
    refine ce_then ?_
    refine cw_seq ?_
    refine cw_block ?_
    refine cw_seq ?_
    refine cw_region ?_
    refine wl_v (ov_move rfl) rfl rfl rfl ?_
    refine wl_v (ov_assign rfl) rfl rfl rfl ?_
    refine wl_nil ?_
    refine ce_then ?_
    refine cw_seq ?_
    refine cw_region ?_
    refine wl_v (ov_move rfl) rfl rfl rfl ?_
    refine wl_v (ov_move rfl) rfl rfl rfl ?_
    refine wl_v (ov_move rfl) rfl rfl rfl ?_
    refine wl_v (ov_index (k := k) (c := c) sI23 tI65 rfl rfl (some_holds (q := k * 2) (holds_old oA) (by rw [cells_length fE_len]; have hlt : k < es.length := (by first | omega | (simp; omega)); omega)) (show k < es.length from (by first | omega | (simp; omega)))) rfl rfl rfl ?_
    refine wl_v (ov_loadAgg (vs := [.int .i64 ((es.getD k (0, 0)).1), .int .i64 ((es.getD k (0, 0)).2)]) tI65 (holds_old oA) rfl (some_holds (q := k * 2) (holds_old oA) (by rw [cells_length fE_len]; have hlt : k < es.length := (by first | omega | (simp; omega)); omega)) (cells_elem fE_len (0, 0) (show k < es.length from (by first | omega | (simp; omega)))) rfl) rfl rfl rfl ?_
    refine wl_r (or_call (fv := []) (vs := [.agg #[.int .i64 ((es.getD k (0, 0)).1), .int .i64 ((es.getD k (0, 0)).2)]]) (cs := cs) hen rfl rfl (call_v (fun w hw => hf _ (getD_mem (0, 0) (by omega)) w hw.below))) rfl rfl (kt_ifb rfl (fun c16 => ?_) (fun c16 => ?_))
    ·
      refine wl_nil ?_
      refine ce_then ?_
      refine cw_true rfl ?_
      refine cw_seq ?_
      refine cw_region ?_
      refine wl_v (ov_move rfl) rfl rfl rfl ?_
      refine wl_v (ov_assign rfl) rfl rfl rfl ?_
      refine wl_nil ?_
      refine ce_then ?_
      refine cw_ret ?_
      refine ce_block_ret ?_
      refine ce_then_ret ?_
      refine ce_then_ret ?_
      refine ce_block_ret ?_
      refine ce_then_ret ?_
      refine ce_results (v := .int .i64 (((k : Nat) : Int))) (res1 rfl (rv_t rfl)) (fun w' hw => ?_)
      exact ⟨(by rw [idxF_found (0, 0) (by omega) hk2 c16]), (Keep.nil.ss hw).to_new⟩
    ·
      refine wl_nil ?_
      refine ce_then ?_
      refine cw_false rfl ?_
      refine cw_skip ?_
      refine ce_block ?_
      refine ce_then ?_
      refine cw_region ?_
      refine wl_v (ov_add (r := ((k + 1 : Nat) : Int)) rfl rfl rfl (by omega)) rfl rfl rfl ?_
      refine wl_v (ov_move rfl) rfl rfl rfl ?_
      refine wl_nil ?_
      exact fun ac_ w_ hs_ => hR0 (k + 1) ⟨by omega, all_take_step (p := fun x => p x = false) (0, 0) (by omega) hk2 c16⟩ (by omega) ac_ w_ (hs_.weaken (.cons rfl (.cons rfl (.cons rfl (.cons rfl (.nil))))) (.nil))
  ·
    refine wl_nil ?_
    refine ce_then ?_
    refine cw_seq ?_
    refine cw_false rfl ?_
    refine cw_exit ?_
    refine ce_then_exit ?_
    refine ce_then_exit ?_
    refine ce_hit ?_
    refine ce_then ?_
    refine cw_seq ?_
    refine cw_region ?_
    refine wl_v (ov_assign rfl) rfl rfl rfl ?_
    refine wl_nil ?_
    refine ce_then ?_
    refine cw_ret ?_
    refine ce_results (v := .int .i64 (-1)) (res1 rfl (rv_t rfl)) (fun w' hw => ?_)
    exact ⟨(by rw [idxF_none (take_all (k := k) (by omega) hk2)]), (Keep.nil.ss hw).to_new⟩
set_option maxRecDepth 100000 in
theorem roots_c (w : World) (m : Nat) (A : Option Addr) (n : Nat) (c : Nat) (es : List (Int × Int)) (hA : At w A (cells fE es)) (eA : es.length = n) (lA : n ≤ c) (hg : Gr m es) (hm : m ≤ 7) : Calls Try.prog 116 #[.agg #[.int .i64 (((m : Nat) : Int)), .slice A (n) (c)]] w (Ret fun rv w' => ∃ A2 c2, (m ≤ c2) ∧ rv = .slice A2 (m) (c2) ∧ New w w' [row 3 1 A2 (m) (c2) (cells fI (rootsOf m es))]) := by
  have oA := hA.atB
  subst eA
  have hel := hg.len (by omega)
  have hil : (idx m (-1)).length = m := by rw [idx_ids, ids_length]
  refine fn_enter (args := [.agg #[.int .i64 (((m : Nat) : Int)), .slice A (es.length) (c)]]) Try.func116 rfl Try.ntmps116 rfl (SS.start w) ?_
  refine cw_seq ?_
  refine cw_region ?_
  refine wl_r (or_box rfl rfl) rfl rfl (kt1 rfl (fun g1 => ?_))
  refine wl_v (ov_assign rfl) rfl rfl rfl ?_
  refine wl_nil ?_
  refine ce_then ?_
  refine cw_seq ?_
  refine cw_region ?_
  refine wl_v (ov_fieldAddr fI25_0 some_lit rfl) rfl rfl rfl ?_
  refine wl_v (ov_load tI3 (holds_blk (List.Mem.head _)) rfl rfl) rfl rfl rfl ?_
  refine wl_r (or_call (fv := []) (vs := [.int .i64 (((m : Nat) : Int)), .int .i64 (-1)]) (cs := []) en68 rfl rfl (call_x2 (fun w hw => indices_c w m (-1) (by first | assumption | omega | (simp; omega))))) rfl rfl (kt2p rfl (fun A2_9 c2_9 h_9 => ?_))
  refine wl_v (ov_assign rfl) rfl rfl rfl ?_
  refine ct_keep (L' := [(0, .agg #[.int .i64 (((m : Nat) : Int)), .slice A (es.length) (c)]), (1, elp (some ⟨g1, 0, none⟩) (0)), (2, .slice none (0) (0)), (3, .slice A2_9 (m) (c2_9)), (7, elp (some ⟨g1, 0, none⟩) (0)), (8, .int .i64 (((m : Nat) : Int))), (9, .slice A2_9 ((idx m (-1)).length) (c2_9))]) (.cons rfl (.cons rfl (.cons rfl (.cons (congrArg (fun z => some (Value.slice A2_9 z c2_9)) (show ((idx m (-1)).length) = m from hil)) (.cons rfl (.cons rfl (.cons rfl (.nil)))))))) .refl ?_
  refine wl_nil ?_
  refine ce_then ?_
  refine cw_seq ?_
  refine cw_seq ?_
  refine cw_region ?_
  refine wl_v (ov_fieldAddr fI25_0 some_lit rfl) rfl rfl rfl ?_
  refine wl_v (ov_load tI3 (holds_blk (List.Mem.tail _ (List.Mem.head _))) rfl rfl) rfl rfl rfl ?_
  refine wl_v (ov_move rfl) rfl rfl rfl ?_
  refine wl_nil ?_
  refine ce_then ?_
  refine cw_block ?_
  refine cw_loop1 (fun (k : Nat) => [(1, elp (some ⟨g1, 0, none⟩) (0)), (2, .slice none (0) (0)), (3, .slice A2_9 (m) (c2_9)), (11, .int .i64 (((m : Nat) : Int))), (12, .int .i64 (((k : Nat) : Int)))]) (fun (k : Nat) => [row 3 1 A2_9 (m) (c2_9) (cells fI (labN es (ids m) k)), blk g1 [.int .i64 (((m : Nat) : Int)), .slice A (es.length) (c)] 25]) (fun (k : Nat) => k ≤ m) (fun (k : Nat) => m - k) 0 (by omega) (.cons rfl (.cons rfl (.cons rfl (.cons rfl (.cons (congrArg (fun z => some (Value.int .i64 z)) (show 0 = ((0 : Nat) : Int) by first | omega | rfl | (simp; done))) (.nil)))))) (.consE (show row 3 1 A2_9 ((idx m (-1)).length) (c2_9) (cells fI (idx m (-1))) = row 3 1 A2_9 (m) (c2_9) (cells fI (labN es (ids m) 0)) by rw [hil, idx_ids] <;> rfl) (.head) (.cons (.head) (.nil))) ?_
  intro R0 k hk hR0
  refine cw_seq ?_
  refine cw_region ?_
  refine wl_if (ov_lss rfl rfl) rfl rfl rfl (fun c13 => ?_) (fun c13 => ?_)
  ·
    refine wl_nil ?_
    refine ce_then ?_
    refine cw_seq ?_
    refine cw_true rfl ?_
    refine cw_skip ?_
    refine ce_then ?_
    refine cw_seq ?_
    refine cw_block ?_
    refine cw_seq ?_
    refine cw_region ?_
    refine wl_v (ov_fieldAddr fI25_1 some_lit rfl) rfl rfl rfl ?_
    refine wl_v (ov_load tI23 (holds_blk (List.Mem.tail _ (List.Mem.head _))) rfl rfl) rfl rfl rfl ?_
    refine wl_v (ov_len (sliceI_spec sI23) rfl) rfl rfl rfl ?_
    refine wl_v (ov_move rfl) rfl rfl rfl ?_
    refine wl_nil ?_
    refine ce_then ?_
    refine cw_block ?_
    refine cw_loop1 (fun (q : Nat) => [(1, elp (some ⟨g1, 0, none⟩) (0)), (2, .slice none (0) (0)), (3, .slice A2_9 (m) (c2_9)), (11, .int .i64 (((m : Nat) : Int))), (12, .int .i64 (((k : Nat) : Int))), (15, .slice A (es.length) (c)), (16, .int .i64 (((es.length : Nat) : Int))), (17, .int .i64 (((q : Nat) : Int)))]) (fun (q : Nat) => [row 3 1 A2_9 (m) (c2_9) (cells fI (labTo es (labN es (ids m) k) q)), blk g1 [.int .i64 (((m : Nat) : Int)), .slice A (es.length) (c)] 25]) (fun (q : Nat) => q ≤ es.length) (fun (q : Nat) => es.length - q) 0 (by omega) (.cons rfl (.cons rfl (.cons rfl (.cons rfl (.cons rfl (.cons rfl (.cons rfl (.cons (congrArg (fun z => some (Value.int .i64 z)) (show 0 = ((0 : Nat) : Int) by first | omega | rfl | (simp; done))) (.nil))))))))) (.consE (show row 3 1 A2_9 (m) (c2_9) (cells fI (labN es (ids m) k)) = row 3 1 A2_9 (m) (c2_9) (cells fI (labTo es (labN es (ids m) k) 0)) by rfl) (.head) (.cons (.head) (.nil))) ?_
    intro R1 q hk1 hR1
    have hll : (labTo es (labN es (ids m) k) q).length = m := by rw [labTo_length, labN_length, ids_length]
    refine cw_seq ?_
    refine cw_region ?_
    refine wl_if (ov_lss rfl rfl) rfl rfl rfl (fun c18 => ?_) (fun c18 => ?_)
    ·
      refine wl_nil ?_
      refine ce_then ?_
      refine cw_seq ?_
      refine cw_true rfl ?_
      refine cw_skip ?_
      refine ce_then ?_
      refine cw_seq ?_
      refine cw_block ?_
      refine cw_seq ?_
      refine cw_region ?_
      refine wl_v (ov_index (k := q) (c := c) sI23 tI65 rfl rfl (some_holds (q := q * 2) (holds_old oA) (by rw [cells_length fE_len]; have hlt : q < es.length := (by omega); omega)) (show q < es.length from (by omega))) rfl rfl rfl ?_
      refine wl_v (ov_loadAgg (vs := [.int .i64 ((es.getD q (0, 0)).1), .int .i64 ((es.getD q (0, 0)).2)]) tI65 (holds_old oA) rfl (some_holds (q := q * 2) (holds_old oA) (by rw [cells_length fE_len]; have hlt : q < es.length := (by omega); omega)) (cells_elem fE_len (0, 0) (show q < es.length from (by omega))) rfl) rfl rfl rfl ?_
      refine wl_r (or_alloc tI65 rfl) rfl rfl (kt1 rfl (fun g5 => ?_))
      refine wl_r0 (or_store_blk (vs := [.int .i64 ((es.getD q (0, 0)).1), .int .i64 ((es.getD q (0, 0)).2)]) (cs' := [.int .i64 ((es.getD q (0, 0)).1), .int .i64 ((es.getD q (0, 0)).2)]) (.head) tI65 rfl rfl rfl rfl (Nat.le_of_ble_eq_true rfl) rfl) rfl rfl (kn0 ?_)
      refine wl_nil ?_
      refine ce_then ?_
      refine cw_seq ?_
      refine ct_fact (some_holds (q := 0) (holds_row (List.Mem.tail _ (List.Mem.head _))) (by rw [cells_length fI_len]; omega)) (fun hso => ?_)
      refine cw_draw mixO [] (.cons (.head) (.cons (.head) (.cons (.head) (.nil)))) rfl ?_
      have hek := hg.inr _ (getD_mem (xs := es) (k := q) (0, 0) (by omega))
      refine wg_takep (i := 0) rfl (ov_move rfl) rfl rfl rfl (by kernel_rfl) (by kernel_rfl) (by kernel_rfl) rfl ?_
      refine wg_take (i := 1) rfl (ov_fieldAddr fI65_0 some_lit rfl) rfl rfl rfl (by kernel_rfl) (by kernel_rfl) (by kernel_rfl) (by kernel_rfl) ?_
      refine wg_take (i := 2) rfl (ov_load tI3 (holds_blk (List.Mem.head _)) rfl rfl) rfl rfl rfl (by kernel_rfl) (by kernel_rfl) (by kernel_rfl) (by kernel_rfl) ?_
      refine wg_take (i := 3) rfl (ov_indexg sI38 tI3 rfl rfl (fun _ _ => hso) (by omega) (show ((es.getD q (0, 0)).1).toNat < m from (by omega))) rfl rfl rfl (by kernel_rfl) (by kernel_rfl) (by kernel_rfl) (by kernel_rfl) ?_
      refine wg_take (i := 4) rfl (ov_load tI3 (holds_row (List.Mem.tail _ (List.Mem.head _))) rfl (get_fI (show ((es.getD q (0, 0)).1).toNat < (labTo es (labN es (ids m) k) q).length from (by omega)))) rfl rfl rfl (by kernel_rfl) (by kernel_rfl) (by kernel_rfl) (by kernel_rfl) ?_
      refine wg_takep (i := 5) rfl (ov_move rfl) rfl rfl rfl (by kernel_rfl) (by kernel_rfl) (by kernel_rfl) rfl ?_
      refine wg_take (i := 6) rfl (ov_fieldAddr fI65_1 some_lit rfl) rfl rfl rfl (by kernel_rfl) (by kernel_rfl) (by kernel_rfl) (by kernel_rfl) ?_
      refine wg_take (i := 7) rfl (ov_load tI3 (holds_blk (List.Mem.head _)) rfl rfl) rfl rfl rfl (by kernel_rfl) (by kernel_rfl) (by kernel_rfl) (by kernel_rfl) ?_
      refine wg_take (i := 8) rfl (ov_indexg sI38 tI3 rfl rfl (fun _ _ => hso) (by omega) (show ((es.getD q (0, 0)).2).toNat < m from (by omega))) rfl rfl rfl (by kernel_rfl) (by kernel_rfl) (by kernel_rfl) (by kernel_rfl) ?_
      refine wg_take (i := 9) rfl (ov_load tI3 (holds_row (List.Mem.tail _ (List.Mem.head _))) rfl (get_fI (show ((es.getD q (0, 0)).2).toNat < (labTo es (labN es (ids m) k) q).length from (by omega)))) rfl rfl rfl (by kernel_rfl) (by kernel_rfl) (by kernel_rfl) (by kernel_rfl) ?_
      refine wg_takep (i := 10) rfl (ov_min (r := min ((labTo es (labN es (ids m) k) q).getD (((es.getD q (0, 0)).1).toNat) 0) ((labTo es (labN es (ids m) k) q).getD (((es.getD q (0, 0)).2).toNat) 0)) rfl rfl (by first | omega | (split <;> omega))) rfl rfl rfl (by kernel_rfl) (by kernel_rfl) (by kernel_rfl) rfl ?_
      refine wg_takep (i := 11) rfl (ov_assign rfl) rfl rfl rfl (by kernel_rfl) (by kernel_rfl) (by kernel_rfl) rfl ?_
      refine wg_done (by kernel_rfl) ?_
      refine ce_then ?_
      refine cw_draw mixO [11] (.cons (.head) (.cons (.tail .head) (.nil))) rfl ?_
      refine wg_takep (i := 0) rfl (ov_move rfl) rfl rfl rfl (by kernel_rfl) (by kernel_rfl) (by kernel_rfl) rfl ?_
      refine wg_take (i := 1) rfl (ov_fieldAddr fI65_0 some_lit rfl) rfl rfl rfl (by kernel_rfl) (by kernel_rfl) (by kernel_rfl) (by kernel_rfl) ?_
      refine wg_take (i := 2) rfl (ov_load tI3 (holds_blk (List.Mem.head _)) rfl rfl) rfl rfl rfl (by kernel_rfl) (by kernel_rfl) (by kernel_rfl) (by kernel_rfl) ?_
      refine wg_takep (i := 3) rfl (ov_move rfl) rfl rfl rfl (by kernel_rfl) (by kernel_rfl) (by kernel_rfl) rfl ?_
      refine wg_take (i := 4) rfl (ov_fieldAddr fI65_1 some_lit rfl) rfl rfl rfl (by kernel_rfl) (by kernel_rfl) (by kernel_rfl) (by kernel_rfl) ?_
      refine wg_take (i := 5) rfl (ov_load tI3 (holds_blk (List.Mem.head _)) rfl rfl) rfl rfl rfl (by kernel_rfl) (by kernel_rfl) (by kernel_rfl) (by kernel_rfl) ?_
      refine wg_takep (i := 6) rfl (ov_move rfl) rfl rfl rfl (by kernel_rfl) (by kernel_rfl) (by kernel_rfl) rfl ?_
      refine wg_takep (i := 7) rfl (ov_move rfl) rfl rfl rfl (by kernel_rfl) (by kernel_rfl) (by kernel_rfl) rfl ?_
      refine wg_take (i := 8) rfl (ov_indexg sI38 tI3 rfl rfl (fun _ _ => hso) (by omega) (show ((es.getD q (0, 0)).1).toNat < m from (by omega))) rfl rfl rfl (by kernel_rfl) (by kernel_rfl) (by kernel_rfl) (by kernel_rfl) ?_
      refine wg_one (i := 9) (by kernel_rfl) ?_
      refine go_r0 rfl rfl rfl rfl (or_store_row (vs := [.int .i64 (min ((labTo es (labN es (ids m) k) q).getD (((es.getD q (0, 0)).1).toNat) 0) ((labTo es (labN es (ids m) k) q).getD (((es.getD q (0, 0)).2).toNat) 0))]) (cs' := cells fI ((labTo es (labN es (ids m) k) q).set (((es.getD q (0, 0)).1).toNat) (min ((labTo es (labN es (ids m) k) q).getD (((es.getD q (0, 0)).1).toNat) 0) ((labTo es (labN es (ids m) k) q).getD (((es.getD q (0, 0)).2).toNat) 0)))) (.tail .head) tI3 rfl rfl rfl rfl (by rw [cells_length fI_len]; have hlt := (show ((es.getD q (0, 0)).1).toNat < (labTo es (labN es (ids m) k) q).length from (by omega)); simp only [List.length_cons, List.length_nil]; omega) (by simp) (cells_splice fI_len (show ((es.getD q (0, 0)).1).toNat < (labTo es (labN es (ids m) k) q).length from (by omega)) (min ((labTo es (labN es (ids m) k) q).getD (((es.getD q (0, 0)).1).toNat) 0) ((labTo es (labN es (ids m) k) q).getD (((es.getD q (0, 0)).2).toNat) 0)))) (kn0 ?_)
      refine gk (.cons (.tail .head) (.cons (.tail .head) (.nil))) ?_
      refine wg_take (i := 10) rfl (ov_indexg sI38 tI3 rfl rfl (fun _ _ => hso) (by omega) (show ((es.getD q (0, 0)).2).toNat < m from (by first | omega | (rw [List.length_set]; omega)))) rfl rfl rfl (by kernel_rfl) (by kernel_rfl) (by kernel_rfl) (by kernel_rfl) ?_
      refine wg_one (i := 11) (by kernel_rfl) ?_
      refine go_late0 rfl rfl rfl rfl (or_store_row (vs := [.int .i64 (min ((labTo es (labN es (ids m) k) q).getD (((es.getD q (0, 0)).1).toNat) 0) ((labTo es (labN es (ids m) k) q).getD (((es.getD q (0, 0)).2).toNat) 0))]) (cs' := cells fI (((labTo es (labN es (ids m) k) q).set (((es.getD q (0, 0)).1).toNat) (min ((labTo es (labN es (ids m) k) q).getD (((es.getD q (0, 0)).1).toNat) 0) ((labTo es (labN es (ids m) k) q).getD (((es.getD q (0, 0)).2).toNat) 0))).set (((es.getD q (0, 0)).2).toNat) (min ((labTo es (labN es (ids m) k) q).getD (((es.getD q (0, 0)).1).toNat) 0) ((labTo es (labN es (ids m) k) q).getD (((es.getD q (0, 0)).2).toNat) 0)))) (.head) tI3 rfl rfl rfl rfl (by rw [cells_length fI_len]; have hlt := (show ((es.getD q (0, 0)).2).toNat < ((labTo es (labN es (ids m) k) q).set (((es.getD q (0, 0)).1).toNat) (min ((labTo es (labN es (ids m) k) q).getD (((es.getD q (0, 0)).1).toNat) 0) ((labTo es (labN es (ids m) k) q).getD (((es.getD q (0, 0)).2).toNat) 0))).length from (by first | omega | (rw [List.length_set]; omega))); simp only [List.length_cons, List.length_nil]; omega) (by simp) (cells_splice fI_len (show ((es.getD q (0, 0)).2).toNat < ((labTo es (labN es (ids m) k) q).set (((es.getD q (0, 0)).1).toNat) (min ((labTo es (labN es (ids m) k) q).getD (((es.getD q (0, 0)).1).toNat) 0) ((labTo es (labN es (ids m) k) q).getD (((es.getD q (0, 0)).2).toNat) 0))).length from (by first | omega | (rw [List.length_set]; omega))) (min ((labTo es (labN es (ids m) k) q).getD (((es.getD q (0, 0)).1).toNat) 0) ((labTo es (labN es (ids m) k) q).getD (((es.getD q (0, 0)).2).toNat) 0)))) (kn0 ?_)
      refine wa_done (by kernel_rfl) ?_
      refine ce_block ?_
      refine ce_then ?_
      refine cw_region ?_
      refine wl_v (ov_add (r := ((q + 1 : Nat) : Int)) rfl rfl rfl (by omega)) rfl rfl rfl ?_
      refine wl_v (ov_move rfl) rfl rfl rfl ?_
      refine wl_nil ?_
      exact fun ac_ w_ hs_ => hR1 (q + 1) (by omega) (by omega) ac_ w_ (hs_.weaken (.cons rfl (.cons rfl (.cons rfl (.cons rfl (.cons rfl (.cons rfl (.cons rfl (.cons rfl (.nil))))))))) (.consE (show row 3 1 A2_9 (m) (c2_9) (cells fI (((labTo es (labN es (ids m) k) q).set (((es.getD q (0, 0)).1).toNat) (min ((labTo es (labN es (ids m) k) q).getD (((es.getD q (0, 0)).1).toNat) 0) ((labTo es (labN es (ids m) k) q).getD (((es.getD q (0, 0)).2).toNat) 0))).set (((es.getD q (0, 0)).2).toNat) (min ((labTo es (labN es (ids m) k) q).getD (((es.getD q (0, 0)).1).toNat) 0) ((labTo es (labN es (ids m) k) q).getD (((es.getD q (0, 0)).2).toNat) 0)))) = row 3 1 A2_9 (m) (c2_9) (cells fI (labTo es (labN es (ids m) k) (q + 1))) by rw [labTo_succ (by omega)] <;> rfl) (.head) (.cons (.tail .head) (.nil))))
    ·
      refine wl_nil ?_
      refine ce_then ?_
      refine cw_seq ?_
      refine cw_false rfl ?_
      refine cw_exit ?_
      refine ce_then_exit ?_
      refine ce_then_exit ?_
      refine ce_hit ?_
      refine ce_block ?_
      refine ce_then ?_
      refine cw_region ?_
      refine wl_v (ov_add (r := ((k + 1 : Nat) : Int)) rfl rfl rfl (by omega)) rfl rfl rfl ?_
      refine wl_v (ov_move rfl) rfl rfl rfl ?_
      refine wl_nil ?_
      exact fun ac_ w_ hs_ => hR0 (k + 1) (by omega) (by omega) ac_ w_ (hs_.weaken (.cons rfl (.cons rfl (.cons rfl (.cons rfl (.cons rfl (.nil)))))) (.consE (show row 3 1 A2_9 (m) (c2_9) (cells fI (labTo es (labN es (ids m) k) q)) = row 3 1 A2_9 (m) (c2_9) (cells fI (labN es (ids m) (k + 1))) by rw [labN, show es.length = q from by omega]) (.head) (.cons (.head) (.nil))))
  ·
    refine wl_nil ?_
    refine ce_then ?_
    refine cw_seq ?_
    refine cw_false rfl ?_
    refine cw_exit ?_
    refine ce_then_exit ?_
    refine ce_then_exit ?_
    refine ce_hit ?_
    refine ce_then ?_
    refine cw_seq ?_
    refine cw_region ?_
    refine wl_v (ov_move rfl) rfl rfl rfl ?_
    refine wl_v (ov_assign rfl) rfl rfl rfl ?_
    refine wl_nil ?_
    refine ce_then ?_
    refine cw_ret ?_
    refine ce_results (v := .slice A2_9 (m) (c2_9)) (res1 rfl (rv_t rfl)) (fun w' hw => ?_)
    exact ⟨A2_9, c2_9, (by omega), rfl, ((.consE (show row 3 1 A2_9 (m) (c2_9) (cells fI (labN es (ids m) k)) = row 3 1 A2_9 (m) (c2_9) (cells fI (rootsOf m es)) by rw [rootsOf, show k = m from by omega]) (.head) (.nil) : Keep _ _).ss hw).to_new⟩
set_option maxRecDepth 100000 in
theorem clipL_c (w : World) (A : Option Addr) (n : Nat) (c : Nat) (hs : List (Option Addr × Nat × Nat)) (hA : At w A (cells fL hs)) (eA : hs.length = n) (lA : n ≤ c) : Calls Try.prog 117 #[.slice A (n) (c)] w (Ret fun rv w' => rv = .slice A (n) (n) ∧ New w w' []) := by
  have oA := hA.atB
  subst eA
  refine fn_enter (args := [.slice A (hs.length) (c)]) Try.func117 rfl Try.ntmps117 rfl (SS.start w) ?_
  refine cw_seq ?_
  refine cw_region ?_
  refine wl_v (ov_assign rfl) rfl rfl rfl ?_
  refine wl_nil ?_
  refine ce_then ?_
  refine cw_seq ?_
  refine cw_region ?_
  refine wl_v (ov_move rfl) rfl rfl rfl ?_
  refine wl_v (ov_move rfl) rfl rfl rfl ?_
  refine wl_v (ov_len (sliceI_spec sI106) rfl) rfl rfl rfl ?_
  refine wl_v (ov_move rfl) rfl rfl rfl ?_
  refine wl_v (ov_len (sliceI_spec sI106) rfl) rfl rfl rfl ?_
  refine wl_v (ov_slice_hm (h := hs.length) (mx := hs.length) sI106 tI38 rfl rfl rfl (Nat.le_refl _) lA) rfl rfl rfl ?_
  refine wl_v (ov_assign rfl) rfl rfl rfl ?_
  refine wl_nil ?_
  refine ce_then ?_
  refine cw_ret ?_
  refine ce_results (v := .slice A (hs.length) (hs.length)) (res1 rfl (rv_t rfl)) (fun w' hw => ?_)
  exact ⟨rfl, (Keep.nil.ss hw).to_new⟩
set_option maxRecDepth 100000 in
theorem componentsI_c (w : World) (m : Nat) (A : Option Addr) (n : Nat) (c : Nat) (es : List (Int × Int)) (hA : At w A (cells fE es)) (eA : es.length = n) (lA : n ≤ c) (hg : Gr m es) (hm : m ≤ 7) : Calls Try.prog 90 #[.agg #[.int .i64 (((m : Nat) : Int)), .slice A (n) (c)]] w (Ret fun rv w' => ∃ A2 c2 k2 hs, ((compsL m es).length ≤ k2) ∧ rv = .slice A2 ((compsL m es).length) (k2) ∧ New w w' [row 38 1 A2 ((compsL m es).length) (c2) (cells fL hs), nest 3 1 fI hs (compsL m es)]) := by
  have oA := hA.atB
  subst eA
  have hel := hg.len (by omega)
  have hrl := rootsOf_length m es
  refine fn_enter (args := [.agg #[.int .i64 (((m : Nat) : Int)), .slice A (es.length) (c)]]) Try.func90 rfl Try.ntmps90 rfl (SS.start w) ?_
  refine cw_seq ?_
  refine cw_region ?_
  refine wl_r (or_box rfl rfl) rfl rfl (kt1 rfl (fun g1 => ?_))
  refine wl_v (ov_assign rfl) rfl rfl rfl ?_
  refine wl_nil ?_
  refine ce_then ?_
  refine cw_seq ?_
  refine cw_region ?_
  refine wl_v (ov_assign rfl) rfl rfl rfl ?_
  refine wl_nil ?_
  refine ce_then ?_
  refine cw_seq ?_
  refine cw_region ?_
  refine wl_v (ov_loadAgg (vs := [.int .i64 (((m : Nat) : Int)), .slice A (es.length) (c)]) tI25 (holds_blk (List.Mem.head _)) rfl some_lit rfl rfl) rfl rfl rfl ?_
  refine wl_r (or_call (fv := []) (vs := [.agg #[.int .i64 (((m : Nat) : Int)), .slice A (es.length) (c)]]) (cs := []) en116 rfl rfl (call_x2 (fun w hw => roots_c w m A es.length c es ((holds_old oA) w hw) rfl lA (by first | assumption | omega | (simp; omega)) (by first | assumption | omega | (simp; omega))))) rfl rfl (kt2p rfl (fun A2_10 c2_10 h_10 => ?_))
  refine wl_v (ov_assign rfl) rfl rfl rfl ?_
  refine wl_nil ?_
  refine ce_then ?_
  refine cw_seq ?_
  refine cw_seq ?_
  refine ct_none fL 38 1 ?_
  refine ct_nest0 3 1 fI ?_
  refine cw_region ?_
  refine wl_v (ov_fieldAddr fI25_0 some_lit rfl) rfl rfl rfl ?_
  refine wl_v (ov_load tI3 (holds_blk (List.Mem.tail _ (List.Mem.tail _ (List.Mem.tail _ (List.Mem.head _))))) rfl rfl) rfl rfl rfl ?_
  refine wl_v (ov_move rfl) rfl rfl rfl ?_
  refine wl_nil ?_
  refine ce_then ?_
  refine cw_block ?_
  refine cw_loop4 (fun (k : Nat) (A2 : Option Addr) (c2 : Nat) (hs : List Hd) => [(2, .slice none (0) (0)), (4, .slice A2_10 (m) (c2_10)), (12, .int .i64 (((m : Nat) : Int))), (3, .slice A2 ((compsTo m es k).length) (c2)), (13, .int .i64 (((k : Nat) : Int)))]) (fun (k : Nat) (A2 : Option Addr) (c2 : Nat) (hs : List Hd) => [nest 3 1 fI hs (compsTo m es k), row 38 1 A2 ((compsTo m es k).length) (c2) (cells fL hs), row 3 1 A2_10 (m) (c2_10) (cells fI (rootsOf m es)), blk g1 [.int .i64 (((m : Nat) : Int)), .slice A (es.length) (c)] 25]) (fun (k : Nat) (A2 : Option Addr) (c2 : Nat) (hs : List Hd) => k ≤ m ∧ (compsTo m es k).length ≤ c2) (fun (k : Nat) (A2 : Option Addr) (c2 : Nat) (hs : List Hd) => m - k) 0 none 0 ([]) ⟨by omega, Nat.le_refl _⟩ (.cons rfl (.cons rfl (.cons rfl (.cons (congrArg (fun z => some (Value.slice none z 0)) (show 0 = ((compsTo m es 0).length) from rfl)) (.cons (congrArg (fun z => some (Value.int .i64 z)) (show 0 = ((0 : Nat) : Int) by first | omega | rfl | (simp; done))) (.nil)))))) (.consE (show nest 3 1 fI ([]) ([]) = nest 3 1 fI ([]) (compsTo m es 0) by rfl) (.head) (.consE (show row 38 1 none (0) (0) (cells fL ([])) = row 38 1 none ((compsTo m es 0).length) (0) (cells fL ([])) by rfl) (.head) (.cons (.head) (.cons (.head) (.nil))))) ?_
  intro R0 k A2 c2 hs hk hR0
  obtain ⟨hk1, hk2⟩ := hk
  have hcl := comps_len m es k
  refine cw_seq ?_
  refine cw_region ?_
  refine wl_if (ov_lss rfl rfl) rfl rfl rfl (fun c14 => ?_) (fun c14 => ?_)
  ·
    refine wl_nil ?_
    refine ce_then ?_
    refine cw_seq ?_
    refine cw_true rfl ?_
    refine cw_skip ?_
    refine ce_then ?_
    refine cw_seq ?_
    refine cw_block ?_
    refine cw_seq ?_
    refine cw_region ?_
    refine wl_v (ov_move rfl) rfl rfl rfl ?_
    refine wl_v (ov_assign rfl) rfl rfl rfl ?_
    refine wl_nil ?_
    refine ce_then ?_
    refine cw_seq ?_
    refine cw_seq ?_
    refine cw_region ?_
    refine wl_v (ov_move rfl) rfl rfl rfl ?_
    refine wl_v (ov_move rfl) rfl rfl rfl ?_
    refine wl_v (ov_index (k := k) (c := c2_10) sI38 tI3 rfl rfl (some_holds (q := k * 1) (holds_row (List.Mem.tail _ (List.Mem.tail _ (List.Mem.head _)))) (by rw [cells_length fI_len]; have hlt : k < (rootsOf m es).length := (by omega); omega)) (show k < m from (by omega))) rfl rfl rfl ?_
    refine wl_v (ov_load tI3 (holds_row (List.Mem.tail _ (List.Mem.tail _ (List.Mem.head _)))) rfl (get_fI (show k < (rootsOf m es).length from (by omega)))) rfl rfl rfl ?_
    refine wl_v (ov_move rfl) rfl rfl rfl ?_
    refine wl_if (ov_neq rfl rfl) rfl rfl rfl (fun c21 => ?_) (fun c21 => ?_)
    ·
      refine wl_nil ?_
      refine ce_then ?_
      refine cw_true rfl ?_
      refine cw_exit ?_
      refine ce_then_exit ?_
      refine ce_hit ?_
      refine ce_then ?_
      refine cw_region ?_
      refine wl_v (ov_add (r := ((k + 1 : Nat) : Int)) rfl rfl rfl (by omega)) rfl rfl rfl ?_
      refine wl_v (ov_move rfl) rfl rfl rfl ?_
      refine wl_nil ?_
      exact fun ac_ w_ hs_ => hR0 (k + 1) A2 c2 hs ⟨by omega, by rw [comps_succ_f c21]; exact hk2⟩ (by omega) ac_ w_ (hs_.weaken (.cons rfl (.cons rfl (.cons rfl (.cons (congrArg (fun z => some (Value.slice A2 z c2)) (show ((compsTo m es k).length) = ((compsTo m es (k + 1)).length) from (by rw [comps_succ_f c21]))) (.cons rfl (.nil)))))) (.consE (show nest 3 1 fI hs (compsTo m es k) = nest 3 1 fI hs (compsTo m es (k + 1)) by rw [comps_succ_f c21]) (.head) (.consE (show row 38 1 A2 ((compsTo m es k).length) (c2) (cells fL hs) = row 38 1 A2 ((compsTo m es (k + 1)).length) (c2) (cells fL hs) by rw [comps_succ_f c21]) (.head) (.cons (.head) (.cons (.head) (.nil))))))
    ·
      refine wl_nil ?_
      refine ce_then ?_
      refine cw_false rfl ?_
      refine cw_skip ?_
      refine ce_then ?_
      refine cw_seq ?_
      refine cw_region ?_
      refine wl_v (ov_assign rfl) rfl rfl rfl ?_
      refine wl_nil ?_
      refine ce_then ?_
      refine cw_seq ?_
      refine cw_seq ?_
      refine ct_none fI 3 1 ?_
      refine cw_region ?_
      refine wl_v (ov_move rfl) rfl rfl rfl ?_
      refine wl_v (ov_len (sliceI_spec sI38) rfl) rfl rfl rfl ?_
      refine wl_v (ov_move rfl) rfl rfl rfl ?_
      refine wl_nil ?_
      refine ce_then ?_
      refine cw_block ?_
      refine cw_loop3 (fun (j : Nat) (A3 : Option Addr) (c3 : Nat) => [(2, .slice none (0) (0)), (3, .slice A2 ((compsTo m es k).length) (c2)), (4, .slice A2_10 (m) (c2_10)), (5, .int .i64 (((k : Nat) : Int))), (12, .int .i64 (((m : Nat) : Int))), (13, .int .i64 (((k : Nat) : Int))), (22, .slice A2_10 (m) (c2_10)), (23, .int .i64 (((m : Nat) : Int))), (6, .slice A3 ((partOf (rootsOf m es) ((k : Nat) : Int) j).length) (c3)), (24, .int .i64 (((j : Nat) : Int)))]) (fun (j : Nat) (A3 : Option Addr) (c3 : Nat) => [row 3 1 A3 ((partOf (rootsOf m es) ((k : Nat) : Int) j).length) (c3) (cells fI (partOf (rootsOf m es) ((k : Nat) : Int) j)), nest 3 1 fI hs (compsTo m es k), row 38 1 A2 ((compsTo m es k).length) (c2) (cells fL hs), row 3 1 A2_10 (m) (c2_10) (cells fI (rootsOf m es)), blk g1 [.int .i64 (((m : Nat) : Int)), .slice A (es.length) (c)] 25]) (fun (j : Nat) (A3 : Option Addr) (c3 : Nat) => j ≤ m ∧ (partOf (rootsOf m es) ((k : Nat) : Int) j).length ≤ c3) (fun (j : Nat) (A3 : Option Addr) (c3 : Nat) => m - j) 0 none 0 ⟨by omega, Nat.le_refl _⟩ (.cons rfl (.cons rfl (.cons rfl (.cons rfl (.cons rfl (.cons rfl (.cons rfl (.cons rfl (.cons (congrArg (fun z => some (Value.slice none z 0)) (show 0 = ((partOf (rootsOf m es) ((k : Nat) : Int) 0).length) from rfl)) (.cons (congrArg (fun z => some (Value.int .i64 z)) (show 0 = ((0 : Nat) : Int) by first | omega | rfl | (simp; done))) (.nil))))))))))) (.consE (show row 3 1 none (0) (0) (cells fI ([])) = row 3 1 none ((partOf (rootsOf m es) ((k : Nat) : Int) 0).length) (0) (cells fI (partOf (rootsOf m es) ((k : Nat) : Int) 0)) by rfl) (.head) (.cons (.head) (.cons (.head) (.cons (.head) (.cons (.head) (.nil)))))) ?_
      intro R1 j A3 c3 hk1 hR1
      obtain ⟨hj1, hj2⟩ := hk1
      have hpl := part_len (rootsOf m es) ((k : Nat) : Int) j
      refine cw_seq ?_
      refine cw_region ?_
      refine wl_if (ov_lss rfl rfl) rfl rfl rfl (fun c25 => ?_) (fun c25 => ?_)
      ·
        refine wl_nil ?_
        refine ce_then ?_
        refine cw_seq ?_
        refine cw_true rfl ?_
        refine cw_skip ?_
        refine ce_then ?_
        refine cw_seq ?_
        refine cw_block ?_
        refine cw_seq ?_
        refine cw_region ?_
        refine wl_v (ov_move rfl) rfl rfl rfl ?_
        refine wl_v (ov_index (k := j) (c := c2_10) sI38 tI3 rfl rfl (some_holds (q := j * 1) (holds_row (List.Mem.tail _ (List.Mem.tail _ (List.Mem.tail _ (List.Mem.head _))))) (by rw [cells_length fI_len]; have hlt : j < (rootsOf m es).length := (by omega); omega)) (show j < m from (by omega))) rfl rfl rfl ?_
        refine wl_v (ov_load tI3 (holds_row (List.Mem.tail _ (List.Mem.tail _ (List.Mem.tail _ (List.Mem.head _))))) rfl (get_fI (show j < (rootsOf m es).length from (by omega)))) rfl rfl rfl ?_
        refine wl_v (ov_assign rfl) rfl rfl rfl ?_
        refine wl_v (ov_assign rfl) rfl rfl rfl ?_
        refine wl_nil ?_
        refine ce_then ?_
        refine cw_seq ?_
        refine cw_region ?_
        refine wl_v (ov_move rfl) rfl rfl rfl ?_
        refine wl_v (ov_move rfl) rfl rfl rfl ?_
        refine wl_if (ov_eql rfl rfl) rfl rfl rfl (fun c31 => ?_) (fun c31 => ?_)
        ·
          refine wl_nil ?_
          refine ce_then ?_
          refine cw_true rfl ?_
          refine cw_region ?_
          refine wl_v (ov_move rfl) rfl rfl rfl ?_
          refine wl_v (ov_move rfl) rfl rfl rfl ?_
          refine wl_r (or_buildSlice (e := 3) (size := 1) (is := [0]) (vs := [.int .i64 (((j : Nat) : Int))]) (cs := cells fI ([((j : Nat) : Int)])) rfl rfl rfl (by decide) (fun _ => by kernel_rfl)) rfl rfl (kt1 rfl (fun g34 => ?_))
          refine wl_r (or_append (c2 := 1) sI38 tI3 rfl (by decide) rfl rfl (.tail .head) (holds_row (List.Mem.head _)) (by rw [cells_length fI_len]; try simp) (one_cells fI_one _) cells_append (by omega) (by omega)) rfl rfl (kt2p rfl (fun A35 c35 h35 => ?_))
          refine wl_v (ov_assign rfl) rfl rfl rfl ?_
          refine wl_nil ?_
          refine ce_block ?_
          refine ce_then ?_
          refine cw_region ?_
          refine wl_v (ov_add (r := ((j + 1 : Nat) : Int)) rfl rfl rfl (by omega)) rfl rfl rfl ?_
          refine wl_v (ov_move rfl) rfl rfl rfl ?_
          refine wl_nil ?_
          exact fun ac_ w_ hs_ => hR1 (j + 1) A35 c35 ⟨by omega, by rw [part_succ_t c31, List.length_append]; exact h35⟩ (by omega) ac_ w_ (hs_.weaken (.cons rfl (.cons rfl (.cons rfl (.cons rfl (.cons rfl (.cons rfl (.cons rfl (.cons rfl (.cons (congrArg (fun z => some (Value.slice A35 z c35)) (show (((partOf (rootsOf m es) ((k : Nat) : Int) j).length) + 1) = ((partOf (rootsOf m es) ((k : Nat) : Int) (j + 1)).length) from (by rw [part_succ_t c31, List.length_append]; rfl))) (.cons rfl (.nil))))))))))) (.consE (show row 3 1 A35 (((partOf (rootsOf m es) ((k : Nat) : Int) j).length) + 1) (c35) (cells fI ((partOf (rootsOf m es) ((k : Nat) : Int) j) ++ ([((j : Nat) : Int)]))) = row 3 1 A35 ((partOf (rootsOf m es) ((k : Nat) : Int) (j + 1)).length) (c35) (cells fI (partOf (rootsOf m es) ((k : Nat) : Int) (j + 1))) by rw [part_succ_t c31]; exact row_eq (by rw [List.length_append]; rfl) rfl) (.head) (.cons (.tail .head) (.cons (.tail .head) (.cons (.tail .head) (.cons (.tail .head) (.nil)))))))
        ·
          refine wl_nil ?_
          refine ce_then ?_
          refine cw_false rfl ?_
          refine cw_skip ?_
          refine ce_block ?_
          refine ce_then ?_
          refine cw_region ?_
          refine wl_v (ov_add (r := ((j + 1 : Nat) : Int)) rfl rfl rfl (by omega)) rfl rfl rfl ?_
          refine wl_v (ov_move rfl) rfl rfl rfl ?_
          refine wl_nil ?_
          exact fun ac_ w_ hs_ => hR1 (j + 1) A3 c3 ⟨by omega, by rw [part_succ_f c31]; exact hj2⟩ (by omega) ac_ w_ (hs_.weaken (.cons rfl (.cons rfl (.cons rfl (.cons rfl (.cons rfl (.cons rfl (.cons rfl (.cons rfl (.cons (congrArg (fun z => some (Value.slice A3 z c3)) (show ((partOf (rootsOf m es) ((k : Nat) : Int) j).length) = ((partOf (rootsOf m es) ((k : Nat) : Int) (j + 1)).length) from (by rw [part_succ_f c31]))) (.cons rfl (.nil))))))))))) (.consE (show row 3 1 A3 ((partOf (rootsOf m es) ((k : Nat) : Int) j).length) (c3) (cells fI (partOf (rootsOf m es) ((k : Nat) : Int) j)) = row 3 1 A3 ((partOf (rootsOf m es) ((k : Nat) : Int) (j + 1)).length) (c3) (cells fI (partOf (rootsOf m es) ((k : Nat) : Int) (j + 1))) by rw [part_succ_f c31]) (.head) (.cons (.head) (.cons (.head) (.cons (.head) (.cons (.head) (.nil)))))))
      ·
        refine wl_nil ?_
        refine ce_then ?_
        refine cw_seq ?_
        refine cw_false rfl ?_
        refine cw_exit ?_
        refine ce_then_exit ?_
        refine ce_then_exit ?_
        refine ce_hit ?_
        refine ce_then ?_
        refine cw_region ?_
        refine wl_v (ov_move rfl) rfl rfl rfl ?_
        refine wl_v (ov_move rfl) rfl rfl rfl ?_
        refine wl_r (or_call (fv := []) (vs := [.slice A3 ((partOf (rootsOf m es) ((k : Nat) : Int) j).length) (c3)]) (cs := []) en54 rfl rfl (call_v (fun w hw => clip_c w A3 ((partOf (rootsOf m es) ((k : Nat) : Int) j).length) c3 (partOf (rootsOf m es) ((k : Nat) : Int) j) ((holds_row (List.Mem.head _)) w hw) rfl hj2))) rfl rfl (kt0 rfl ?_)
        refine wl_r (or_buildSlice (e := 38) (size := 1) (is := [0]) (vs := [.slice A3 (((partOf (rootsOf m es) ((k : Nat) : Int) j).length)) (((partOf (rootsOf m es) ((k : Nat) : Int) j).length))]) (cs := cells fL ([(A3, ((partOf (rootsOf m es) ((k : Nat) : Int) j).length), ((partOf (rootsOf m es) ((k : Nat) : Int) j).length))])) rfl rfl rfl (by decide) (fun _ => by kernel_rfl)) rfl rfl (kt1 rfl (fun g40 => ?_))
        refine wl_r (or_append (c2 := 1) sI106 tI38 rfl (by decide) rfl rfl (.tail (.tail (.tail .head))) (holds_row (List.Mem.head _)) (by rw [cells_length fL_len]; try simp) (one_cells fL_one _) cells_append (by omega) (by omega)) rfl rfl (kt2p rfl (fun A41 c41 h41 => ?_))
        refine ct_push (k := (partOf (rootsOf m es) ((k : Nat) : Int) j).length) (.cons (.tail (.tail (.tail .head))) (.cons (.tail (.tail .head)) (.cons (.head) (.cons (.head) (.cons (.head) (.cons (.head) (.nil))))))) (rfl) (Nat.le_refl _) ?_
        refine wl_v (ov_assign rfl) rfl rfl rfl ?_
        refine wl_nil ?_
        refine ce_block ?_
        refine ce_then ?_
        refine cw_region ?_
        refine wl_v (ov_add (r := ((k + 1 : Nat) : Int)) rfl rfl rfl (by omega)) rfl rfl rfl ?_
        refine wl_v (ov_move rfl) rfl rfl rfl ?_
        refine wl_nil ?_
        exact fun ac_ w_ hs_ => hR0 (k + 1) A41 c41 (hs ++ ([(A3, ((partOf (rootsOf m es) ((k : Nat) : Int) j).length), ((partOf (rootsOf m es) ((k : Nat) : Int) j).length))])) ⟨by omega, by rw [comps_succ_t (by omega), List.length_append]; exact h41⟩ (by omega) ac_ w_ (hs_.weaken (.cons rfl (.cons rfl (.cons rfl (.cons (congrArg (fun z => some (Value.slice A41 z c41)) (show (((compsTo m es k).length) + 1) = ((compsTo m es (k + 1)).length) from (by rw [comps_succ_t (by omega), List.length_append]; rfl))) (.cons rfl (.nil)))))) (.consE (show nest 3 1 fI (hs ++ [(A3, (partOf (rootsOf m es) ((k : Nat) : Int) j).length, (partOf (rootsOf m es) ((k : Nat) : Int) j).length)]) (compsTo m es k ++ [partOf (rootsOf m es) ((k : Nat) : Int) j]) = nest 3 1 fI (hs ++ ([(A3, ((partOf (rootsOf m es) ((k : Nat) : Int) j).length), ((partOf (rootsOf m es) ((k : Nat) : Int) j).length))])) (compsTo m es (k + 1)) by rw [comps_succ_t (by omega), show m = j from by omega]) (.head) (.consE (show row 38 1 A41 (((compsTo m es k).length) + 1) (c41) (cells fL (hs ++ ([(A3, ((partOf (rootsOf m es) ((k : Nat) : Int) j).length), ((partOf (rootsOf m es) ((k : Nat) : Int) j).length))]))) = row 38 1 A41 ((compsTo m es (k + 1)).length) (c41) (cells fL (hs ++ ([(A3, ((partOf (rootsOf m es) ((k : Nat) : Int) j).length), ((partOf (rootsOf m es) ((k : Nat) : Int) j).length))]))) by rw [comps_succ_t (by omega), List.length_append]; rfl) (.head) (.cons (.tail .head) (.cons (.tail .head) (.nil))))))
  ·
    refine wl_nil ?_
    refine ce_then ?_
    refine cw_seq ?_
    refine cw_false rfl ?_
    refine cw_exit ?_
    refine ce_then_exit ?_
    refine ce_then_exit ?_
    refine ce_hit ?_
    refine ce_then ?_
    refine cw_seq ?_
    refine cw_region ?_
    refine wl_v (ov_move rfl) rfl rfl rfl ?_
    refine ct_fact (nest_facts (List.Mem.head _)) (fun hnfz => ?_)
    refine wl_r (or_call (fv := []) (vs := [.slice A2 ((compsTo m es k).length) (c2)]) (cs := []) en117 rfl rfl (call_v (fun w hw => clipL_c w A2 ((compsTo m es k).length) c2 hs ((holds_row (List.Mem.tail _ (List.Mem.head _))) w hw) hnfz.1 hk2))) rfl rfl (kt0 rfl ?_)
    refine wl_v (ov_assign rfl) rfl rfl rfl ?_
    refine wl_nil ?_
    refine ce_then ?_
    refine cw_ret ?_
    refine ce_results (v := .slice A2 (((compsTo m es k).length)) (((compsTo m es k).length))) (res1 rfl (rv_t rfl)) (fun w' hw => ?_)
    exact ⟨A2, c2, (compsTo m es k).length, hs, (by rw [compsL, show compsTo m es m = compsTo m es k from by rw [show m = k from by omega]]; exact Nat.le_refl _), (by rw [compsL, show compsTo m es m = compsTo m es k from by rw [show m = k from by omega]]), ((.consE (show row 38 1 A2 ((compsTo m es k).length) (c2) (cells fL hs) = row 38 1 A2 ((compsL m es).length) (c2) (cells fL hs) by rw [compsL, show compsTo m es m = compsTo m es k from by rw [show m = k from by omega]]) (.tail .head) (.consE (show nest 3 1 fI hs (compsTo m es k) = nest 3 1 fI hs (compsL m es) by rw [compsL, show compsTo m es m = compsTo m es k from by rw [show m = k from by omega]]) (.head) (.nil)) : Keep _ _).ss hw).to_new⟩
set_option maxRecDepth 100000 in
theorem componentS_c (w : World) (m : Nat) (A : Option Addr) (n : Nat) (c : Nat) (es : List (Int × Int)) (v : Nat) (hA : At w A (cells fE es)) (eA : es.length = n) (lA : n ≤ c) (hg : Gr m es) (hm : m ≤ 7) (hv : v < m) : Calls Try.prog 115 #[.agg #[.int .i64 (((m : Nat) : Int)), .slice A (n) (c)], .int .i64 (((v : Nat) : Int))] w (Ret fun rv w' => ∃ A2 c2, ((compOf m es v).length ≤ c2) ∧ rv = .slice A2 ((compOf m es v).length) (c2) ∧ New w w' [row 3 1 A2 ((compOf m es v).length) (c2) (cells fI (compOf m es v))]) := by
  have oA := hA.atB
  subst eA
  have hel := hg.len (by omega)
  refine fn_enter (args := [.agg #[.int .i64 (((m : Nat) : Int)), .slice A (es.length) (c)], .int .i64 (((v : Nat) : Int))]) Try.func115 rfl Try.ntmps115 rfl (SS.start w) ?_
  refine cw_seq ?_
  refine cw_region ?_
  refine wl_r (or_box rfl rfl) rfl rfl (kt1 rfl (fun g2 => ?_))
  refine wl_v (ov_assign rfl) rfl rfl rfl ?_
  refine wl_nil ?_
  refine ce_then ?_
  refine cw_seq ?_
  refine cw_region ?_
  refine wl_v (ov_fieldAddr fI25_0 some_lit rfl) rfl rfl rfl ?_
  refine wl_v (ov_load tI3 (holds_blk (List.Mem.head _)) rfl rfl) rfl rfl rfl ?_
  refine wl_r (or_makeSlice (m := m) sI144 tI4 rfl rfl (made_fB _) (by omega) (show m ≤ maxLen by simp only [maxLen]; omega)) rfl rfl (kt1 rfl (fun g13 => ?_))
  refine wl_v (ov_assign rfl) rfl rfl rfl ?_
  refine wl_nil ?_
  refine ce_then ?_
  refine cw_seq ?_
  refine cw_region ?_
  refine wl_v (ov_move rfl) rfl rfl rfl ?_
  refine wl_v (ov_move rfl) rfl rfl rfl ?_
  refine wl_v (ov_index (k := v) (c := m) sI144 tI4 rfl rfl (some_holds (q := v * 1) (holds_row (List.Mem.head _)) (by rw [cells_length fB_len]; have hlt : v < (List.replicate m false).length := (by first | omega | (rw [List.length_replicate]; omega)); omega)) (show v < m from (by first | omega | (rw [List.length_replicate]; omega)))) rfl rfl rfl ?_
  refine wl_r0 (or_store_row (vs := [.bool true]) (cs' := cells fB ((List.replicate m false).set v true)) (.head) tI4 rfl rfl rfl rfl (by rw [cells_length fB_len]; have hlt := (show v < (List.replicate m false).length from (by first | omega | (rw [List.length_replicate]; omega))); simp only [List.length_cons, List.length_nil]; omega) (by simp) (cells_splice fB_len (show v < (List.replicate m false).length from (by first | omega | (rw [List.length_replicate]; omega))) true)) rfl rfl (kn0 ?_)
  refine wl_nil ?_
  refine ce_then ?_
  refine cw_seq ?_
  refine cw_seq ?_
  refine cw_region ?_
  refine wl_v (ov_assign rfl) rfl rfl rfl ?_
  refine wl_nil ?_
  refine ce_then ?_
  refine cw_block ?_
  refine cw_loop1 (fun (k : Nat) => [(2, elp (some ⟨g2, 0, none⟩) (0)), (4, .slice none (0) (0)), (5, .slice (some ⟨g13, 0, none⟩) (m) (m)), (6, .int .i64 (((k : Nat) : Int)))]) (fun (k : Nat) => [row 4 1 (some ⟨g13, 0, none⟩) (m) (m) (cells fB (sprdN es (oneAt m v) k)), blk g2 [.int .i64 (((m : Nat) : Int)), .slice A (es.length) (c)] 25]) (fun (k : Nat) => k ≤ m) (fun (k : Nat) => m - k) 0 (by omega) (.cons rfl (.cons rfl (.cons rfl (.cons (congrArg (fun z => some (Value.int .i64 z)) (show 0 = ((0 : Nat) : Int) by first | omega | rfl | (simp; done))) (.nil))))) (.consE (show row 4 1 (some ⟨g13, 0, none⟩) (m) (m) (cells fB ((List.replicate m false).set v true)) = row 4 1 (some ⟨g13, 0, none⟩) (m) (m) (cells fB (sprdN es (oneAt m v) 0)) by rfl) (.head) (.cons (.head) (.nil))) ?_
  intro R0 k hk hR0
  refine cw_seq ?_
  refine cw_seq ?_
  refine cw_region ?_
  refine wl_v (ov_move rfl) rfl rfl rfl ?_
  refine wl_v (ov_fieldAddr fI25_0 some_lit rfl) rfl rfl rfl ?_
  refine wl_v (ov_load tI3 (holds_blk (List.Mem.tail _ (List.Mem.head _))) rfl rfl) rfl rfl rfl ?_
  refine wl_if (ov_lss rfl rfl) rfl rfl rfl (fun c20 => ?_) (fun c20 => ?_)
  ·
    refine wl_nil ?_
    refine ce_then ?_
    refine cw_true rfl ?_
    refine cw_skip ?_
    refine ce_then ?_
    refine cw_seq ?_
    refine cw_block ?_
    refine cw_seq ?_
    refine cw_region ?_
    refine wl_v (ov_assign rfl) rfl rfl rfl ?_
    refine wl_nil ?_
    refine ce_then ?_
    refine cw_block ?_
    refine cw_loop1 (fun (q : Nat) => [(2, elp (some ⟨g2, 0, none⟩) (0)), (4, .slice none (0) (0)), (5, .slice (some ⟨g13, 0, none⟩) (m) (m)), (6, .int .i64 (((k : Nat) : Int))), (7, .int .i64 (((q : Nat) : Int)))]) (fun (q : Nat) => [row 4 1 (some ⟨g13, 0, none⟩) (m) (m) (cells fB (sprdTo es (sprdN es (oneAt m v) k) q)), blk g2 [.int .i64 (((m : Nat) : Int)), .slice A (es.length) (c)] 25]) (fun (q : Nat) => q ≤ es.length) (fun (q : Nat) => es.length - q) 0 (by omega) (.cons rfl (.cons rfl (.cons rfl (.cons rfl (.cons (congrArg (fun z => some (Value.int .i64 z)) (show 0 = ((0 : Nat) : Int) by first | omega | rfl | (simp; done))) (.nil)))))) (.consE (show row 4 1 (some ⟨g13, 0, none⟩) (m) (m) (cells fB (sprdN es (oneAt m v) k)) = row 4 1 (some ⟨g13, 0, none⟩) (m) (m) (cells fB (sprdTo es (sprdN es (oneAt m v) k) 0)) by rfl) (.head) (.cons (.head) (.nil))) ?_
    intro R1 q hk1 hR1
    have hll : (sprdTo es (sprdN es (oneAt m v) k) q).length = m := by rw [sprdTo_length, sprdN_length]; simp [oneAt]
    refine cw_seq ?_
    refine cw_seq ?_
    refine cw_region ?_
    refine wl_v (ov_move rfl) rfl rfl rfl ?_
    refine wl_v (ov_fieldAddr fI25_1 some_lit rfl) rfl rfl rfl ?_
    refine wl_v (ov_load tI23 (holds_blk (List.Mem.tail _ (List.Mem.head _))) rfl rfl) rfl rfl rfl ?_
    refine wl_v (ov_len (sliceI_spec sI23) rfl) rfl rfl rfl ?_
    refine wl_if (ov_lss rfl rfl) rfl rfl rfl (fun c27 => ?_) (fun c27 => ?_)
    ·
      refine wl_nil ?_
      refine ce_then ?_
      refine cw_true rfl ?_
      refine cw_skip ?_
      refine ce_then ?_
      refine cw_seq ?_
      refine cw_block ?_
      refine cw_seq ?_
      refine cw_region ?_
      refine wl_v (ov_fieldAddr fI25_1 some_lit rfl) rfl rfl rfl ?_
      refine wl_v (ov_load tI23 (holds_blk (List.Mem.tail _ (List.Mem.head _))) rfl rfl) rfl rfl rfl ?_
      refine wl_v (ov_move rfl) rfl rfl rfl ?_
      refine wl_v (ov_index (k := q) (c := c) sI23 tI65 rfl rfl (some_holds (q := q * 2) (holds_old oA) (by rw [cells_length fE_len]; have hlt : q < es.length := (by omega); omega)) (show q < es.length from (by omega))) rfl rfl rfl ?_
      refine wl_v (ov_loadAgg (vs := [.int .i64 ((es.getD q (0, 0)).1), .int .i64 ((es.getD q (0, 0)).2)]) tI65 (holds_old oA) rfl (some_holds (q := q * 2) (holds_old oA) (by rw [cells_length fE_len]; have hlt : q < es.length := (by omega); omega)) (cells_elem fE_len (0, 0) (show q < es.length from (by omega))) rfl) rfl rfl rfl ?_
      have hek := hg.inr _ (getD_mem (xs := es) (k := q) (0, 0) (by omega))
      refine wl_r (or_alloc tI65 rfl) rfl rfl (kt1 rfl (fun g8 => ?_))
      refine wl_r0 (or_store_blk (vs := [.int .i64 ((es.getD q (0, 0)).1), .int .i64 ((es.getD q (0, 0)).2)]) (cs' := [.int .i64 ((es.getD q (0, 0)).1), .int .i64 ((es.getD q (0, 0)).2)]) (.head) tI65 rfl rfl rfl rfl (Nat.le_of_ble_eq_true rfl) rfl) rfl rfl (kn0 ?_)
      refine wl_nil ?_
      refine ce_then ?_
      refine cw_seq ?_
      refine cw_region ?_
      refine wl_v (ov_move rfl) rfl rfl rfl ?_
      refine wl_v (ov_fieldAddr fI65_0 some_lit rfl) rfl rfl rfl ?_
      refine wl_v (ov_load tI3 (holds_blk (List.Mem.head _)) rfl rfl) rfl rfl rfl ?_
      refine wl_v (ov_indexg sI144 tI4 rfl rfl (some_holds (q := (((es.getD q (0, 0)).1).toNat) * 1) (holds_row (List.Mem.tail _ (List.Mem.head _))) (by rw [cells_length fB_len]; have hlt : ((es.getD q (0, 0)).1).toNat < (sprdTo es (sprdN es (oneAt m v) k) q).length := (by omega); omega)) (by omega) (show ((es.getD q (0, 0)).1).toNat < m from (by omega))) rfl rfl rfl ?_
      refine wl_if (OpV.dec (ov_load tI4 (holds_row (List.Mem.tail _ (List.Mem.head _))) rfl (get_fB (show ((es.getD q (0, 0)).1).toNat < (sprdTo es (sprdN es (oneAt m v) k) q).length from (by omega))))) rfl rfl rfl (fun c39 => ?_) (fun c39 => ?_)
      ·
        refine wl_v (ov_move rfl) rfl rfl rfl ?_
        refine wl_not rfl rfl rfl rfl rfl rfl ?_
        refine wl_not rfl rfl rfl rfl rfl rfl ?_
        refine wl_not rfl rfl rfl rfl rfl rfl ?_
        refine wl_not rfl rfl rfl rfl rfl rfl ?_
        refine wl_not rfl rfl rfl rfl rfl rfl ?_
        refine wl_v (ov_pick_t rfl rfl) rfl rfl rfl ?_
        refine wl_nil ?_
        refine ce_then ?_
        refine cw_true rfl ?_
        refine cw_seq ?_
        refine cw_region ?_
        refine wl_v (ov_move rfl) rfl rfl rfl ?_
        refine wl_v (ov_fieldAddr fI65_0 some_lit rfl) rfl rfl rfl ?_
        refine wl_v (ov_load tI3 (holds_blk (List.Mem.head _)) rfl rfl) rfl rfl rfl ?_
        refine wl_v (ov_indexg sI144 tI4 rfl rfl (some_holds (q := (((es.getD q (0, 0)).1).toNat) * 1) (holds_row (List.Mem.tail _ (List.Mem.head _))) (by rw [cells_length fB_len]; have hlt : ((es.getD q (0, 0)).1).toNat < (sprdTo es (sprdN es (oneAt m v) k) q).length := (by omega); omega)) (by omega) (show ((es.getD q (0, 0)).1).toNat < m from (by omega))) rfl rfl rfl ?_
        refine wl_r0 (or_store_row (vs := [.bool true]) (cs' := cells fB ((sprdTo es (sprdN es (oneAt m v) k) q).set (((es.getD q (0, 0)).1).toNat) true)) (.tail .head) tI4 rfl rfl rfl rfl (by rw [cells_length fB_len]; have hlt := (show ((es.getD q (0, 0)).1).toNat < (sprdTo es (sprdN es (oneAt m v) k) q).length from (by omega)); simp only [List.length_cons, List.length_nil]; omega) (by simp) (cells_splice fB_len (show ((es.getD q (0, 0)).1).toNat < (sprdTo es (sprdN es (oneAt m v) k) q).length from (by omega)) true)) rfl rfl (kn0 ?_)
        refine wl_nil ?_
        refine ce_then ?_
        refine cw_region ?_
        refine wl_v (ov_move rfl) rfl rfl rfl ?_
        refine wl_v (ov_fieldAddr fI65_1 some_lit rfl) rfl rfl rfl ?_
        refine wl_v (ov_load tI3 (holds_blk (List.Mem.tail _ (List.Mem.head _))) rfl rfl) rfl rfl rfl ?_
        refine wl_v (ov_indexg sI144 tI4 rfl rfl (some_holds (q := (((es.getD q (0, 0)).2).toNat) * 1) (holds_row (List.Mem.head _)) (by rw [cells_length fB_len]; have hlt : ((es.getD q (0, 0)).2).toNat < ((sprdTo es (sprdN es (oneAt m v) k) q).set (((es.getD q (0, 0)).1).toNat) true).length := (by first | omega | (rw [List.length_set]; omega)); omega)) (by omega) (show ((es.getD q (0, 0)).2).toNat < m from (by first | omega | (rw [List.length_set]; omega)))) rfl rfl rfl ?_
        refine wl_r0 (or_store_row (vs := [.bool true]) (cs' := cells fB (((sprdTo es (sprdN es (oneAt m v) k) q).set (((es.getD q (0, 0)).1).toNat) true).set (((es.getD q (0, 0)).2).toNat) true)) (.head) tI4 rfl rfl rfl rfl (by rw [cells_length fB_len]; have hlt := (show ((es.getD q (0, 0)).2).toNat < ((sprdTo es (sprdN es (oneAt m v) k) q).set (((es.getD q (0, 0)).1).toNat) true).length from (by first | omega | (rw [List.length_set]; omega))); simp only [List.length_cons, List.length_nil]; omega) (by simp) (cells_splice fB_len (show ((es.getD q (0, 0)).2).toNat < ((sprdTo es (sprdN es (oneAt m v) k) q).set (((es.getD q (0, 0)).1).toNat) true).length from (by first | omega | (rw [List.length_set]; omega))) true)) rfl rfl (kn0 ?_)
        refine wl_nil ?_
        refine ce_block ?_
        refine ce_then ?_
        refine cw_region ?_
        refine wl_v (ov_move rfl) rfl rfl rfl ?_
        refine wl_v (ov_add (r := ((q + 1 : Nat) : Int)) rfl rfl rfl (by omega)) rfl rfl rfl ?_
        refine wl_v (ov_assign rfl) rfl rfl rfl ?_
        refine wl_nil ?_
        exact fun ac_ w_ hs_ => hR1 (q + 1) (by omega) (by omega) ac_ w_ (hs_.weaken (.cons rfl (.cons rfl (.cons rfl (.cons rfl (.cons rfl (.nil)))))) (.consE (show row 4 1 (some ⟨g13, 0, none⟩) (m) (m) (cells fB (((sprdTo es (sprdN es (oneAt m v) k) q).set (((es.getD q (0, 0)).1).toNat) true).set (((es.getD q (0, 0)).2).toNat) true)) = row 4 1 (some ⟨g13, 0, none⟩) (m) (m) (cells fB (sprdTo es (sprdN es (oneAt m v) k) (q + 1))) by rw [sprdTo_succ (by omega), sprd, if_pos (by rw [c39]; rfl)]) (.head) (.cons (.tail .head) (.nil))))
      ·
        refine wl_v (ov_move rfl) rfl rfl rfl ?_
        refine wl_go rfl rfl ?_
        refine wl_v (ov_move rfl) rfl rfl rfl ?_
        refine wl_go rfl rfl ?_
        refine wl_v (ov_fieldAddr fI65_1 some_lit rfl) rfl rfl rfl ?_
        refine wl_go rfl rfl ?_
        refine wl_v (ov_load tI3 (holds_blk (List.Mem.head _)) rfl rfl) rfl rfl rfl ?_
        refine wl_go rfl rfl ?_
        refine wl_v (ov_indexg sI144 tI4 rfl rfl (some_holds (q := (((es.getD q (0, 0)).2).toNat) * 1) (holds_row (List.Mem.tail _ (List.Mem.head _))) (by rw [cells_length fB_len]; have hlt : ((es.getD q (0, 0)).2).toNat < (sprdTo es (sprdN es (oneAt m v) k) q).length := (by omega); omega)) (by omega) (show ((es.getD q (0, 0)).2).toNat < m from (by omega))) rfl rfl rfl ?_
        refine wl_go rfl rfl ?_
        refine wl_if (OpV.dec (ov_load tI4 (holds_row (List.Mem.tail _ (List.Mem.head _))) rfl (get_fB (show ((es.getD q (0, 0)).2).toNat < (sprdTo es (sprdN es (oneAt m v) k) q).length from (by omega))))) rfl rfl rfl (fun c45 => ?_) (fun c45 => ?_)
        ·
          refine wl_v (ov_pick_f rfl rfl) rfl rfl rfl ?_
          refine wl_nil ?_
          refine ce_then ?_
          refine cw_true rfl ?_
          refine cw_seq ?_
          refine cw_region ?_
          refine wl_v (ov_move rfl) rfl rfl rfl ?_
          refine wl_v (ov_fieldAddr fI65_0 some_lit rfl) rfl rfl rfl ?_
          refine wl_v (ov_load tI3 (holds_blk (List.Mem.head _)) rfl rfl) rfl rfl rfl ?_
          refine wl_v (ov_indexg sI144 tI4 rfl rfl (some_holds (q := (((es.getD q (0, 0)).1).toNat) * 1) (holds_row (List.Mem.tail _ (List.Mem.head _))) (by rw [cells_length fB_len]; have hlt : ((es.getD q (0, 0)).1).toNat < (sprdTo es (sprdN es (oneAt m v) k) q).length := (by omega); omega)) (by omega) (show ((es.getD q (0, 0)).1).toNat < m from (by omega))) rfl rfl rfl ?_
          refine wl_r0 (or_store_row (vs := [.bool true]) (cs' := cells fB ((sprdTo es (sprdN es (oneAt m v) k) q).set (((es.getD q (0, 0)).1).toNat) true)) (.tail .head) tI4 rfl rfl rfl rfl (by rw [cells_length fB_len]; have hlt := (show ((es.getD q (0, 0)).1).toNat < (sprdTo es (sprdN es (oneAt m v) k) q).length from (by omega)); simp only [List.length_cons, List.length_nil]; omega) (by simp) (cells_splice fB_len (show ((es.getD q (0, 0)).1).toNat < (sprdTo es (sprdN es (oneAt m v) k) q).length from (by omega)) true)) rfl rfl (kn0 ?_)
          refine wl_nil ?_
          refine ce_then ?_
          refine cw_region ?_
          refine wl_v (ov_move rfl) rfl rfl rfl ?_
          refine wl_v (ov_fieldAddr fI65_1 some_lit rfl) rfl rfl rfl ?_
          refine wl_v (ov_load tI3 (holds_blk (List.Mem.tail _ (List.Mem.head _))) rfl rfl) rfl rfl rfl ?_
          refine wl_v (ov_indexg sI144 tI4 rfl rfl (some_holds (q := (((es.getD q (0, 0)).2).toNat) * 1) (holds_row (List.Mem.head _)) (by rw [cells_length fB_len]; have hlt : ((es.getD q (0, 0)).2).toNat < ((sprdTo es (sprdN es (oneAt m v) k) q).set (((es.getD q (0, 0)).1).toNat) true).length := (by first | omega | (rw [List.length_set]; omega)); omega)) (by omega) (show ((es.getD q (0, 0)).2).toNat < m from (by first | omega | (rw [List.length_set]; omega)))) rfl rfl rfl ?_
          refine wl_r0 (or_store_row (vs := [.bool true]) (cs' := cells fB (((sprdTo es (sprdN es (oneAt m v) k) q).set (((es.getD q (0, 0)).1).toNat) true).set (((es.getD q (0, 0)).2).toNat) true)) (.head) tI4 rfl rfl rfl rfl (by rw [cells_length fB_len]; have hlt := (show ((es.getD q (0, 0)).2).toNat < ((sprdTo es (sprdN es (oneAt m v) k) q).set (((es.getD q (0, 0)).1).toNat) true).length from (by first | omega | (rw [List.length_set]; omega))); simp only [List.length_cons, List.length_nil]; omega) (by simp) (cells_splice fB_len (show ((es.getD q (0, 0)).2).toNat < ((sprdTo es (sprdN es (oneAt m v) k) q).set (((es.getD q (0, 0)).1).toNat) true).length from (by first | omega | (rw [List.length_set]; omega))) true)) rfl rfl (kn0 ?_)
          refine wl_nil ?_
          refine ce_block ?_
          refine ce_then ?_
          refine cw_region ?_
          refine wl_v (ov_move rfl) rfl rfl rfl ?_
          refine wl_v (ov_add (r := ((q + 1 : Nat) : Int)) rfl rfl rfl (by omega)) rfl rfl rfl ?_
          refine wl_v (ov_assign rfl) rfl rfl rfl ?_
          refine wl_nil ?_
          exact fun ac_ w_ hs_ => hR1 (q + 1) (by omega) (by omega) ac_ w_ (hs_.weaken (.cons rfl (.cons rfl (.cons rfl (.cons rfl (.cons rfl (.nil)))))) (.consE (show row 4 1 (some ⟨g13, 0, none⟩) (m) (m) (cells fB (((sprdTo es (sprdN es (oneAt m v) k) q).set (((es.getD q (0, 0)).1).toNat) true).set (((es.getD q (0, 0)).2).toNat) true)) = row 4 1 (some ⟨g13, 0, none⟩) (m) (m) (cells fB (sprdTo es (sprdN es (oneAt m v) k) (q + 1))) by rw [sprdTo_succ (by omega), sprd, if_pos (by rw [c45]; exact Bool.or_true _)]) (.head) (.cons (.tail .head) (.nil))))
        ·
          refine wl_v (ov_pick_f rfl rfl) rfl rfl rfl ?_
          refine wl_nil ?_
          refine ce_then ?_
          refine cw_false rfl ?_
          refine cw_skip ?_
          refine ce_block ?_
          refine ce_then ?_
          refine cw_region ?_
          refine wl_v (ov_move rfl) rfl rfl rfl ?_
          refine wl_v (ov_add (r := ((q + 1 : Nat) : Int)) rfl rfl rfl (by omega)) rfl rfl rfl ?_
          refine wl_v (ov_assign rfl) rfl rfl rfl ?_
          refine wl_nil ?_
          exact fun ac_ w_ hs_ => hR1 (q + 1) (by omega) (by omega) ac_ w_ (hs_.weaken (.cons rfl (.cons rfl (.cons rfl (.cons rfl (.cons rfl (.nil)))))) (.consE (show row 4 1 (some ⟨g13, 0, none⟩) (m) (m) (cells fB (sprdTo es (sprdN es (oneAt m v) k) q)) = row 4 1 (some ⟨g13, 0, none⟩) (m) (m) (cells fB (sprdTo es (sprdN es (oneAt m v) k) (q + 1))) by rw [sprdTo_succ (by omega), sprd, if_neg (by simp only [Bool.or_eq_true, not_or]; exact ⟨c39, c45⟩)]) (.tail .head) (.cons (.tail .head) (.nil))))
    ·
      refine wl_nil ?_
      refine ce_then ?_
      refine cw_false rfl ?_
      refine cw_exit ?_
      refine ce_then_exit ?_
      refine ce_then_exit ?_
      refine ce_hit ?_
      refine ce_block ?_
      refine ce_then ?_
      refine cw_region ?_
      refine wl_v (ov_move rfl) rfl rfl rfl ?_
      refine wl_v (ov_add (r := ((k + 1 : Nat) : Int)) rfl rfl rfl (by omega)) rfl rfl rfl ?_
      refine wl_v (ov_assign rfl) rfl rfl rfl ?_
      refine wl_nil ?_
      exact fun ac_ w_ hs_ => hR0 (k + 1) (by omega) (by omega) ac_ w_ (hs_.weaken (.cons rfl (.cons rfl (.cons rfl (.cons rfl (.nil))))) (.consE (show row 4 1 (some ⟨g13, 0, none⟩) (m) (m) (cells fB (sprdTo es (sprdN es (oneAt m v) k) q)) = row 4 1 (some ⟨g13, 0, none⟩) (m) (m) (cells fB (sprdN es (oneAt m v) (k + 1))) by rw [sprdN, show es.length = q from by omega]) (.head) (.cons (.head) (.nil))))
  ·
    refine wl_nil ?_
    refine ce_then ?_
    refine cw_false rfl ?_
    refine cw_exit ?_
    refine ce_then_exit ?_
    refine ce_then_exit ?_
    refine ce_hit ?_
    refine ce_then ?_
    refine cw_seq ?_
    have hkm : sprdN es (oneAt m v) k = inOf m es v := by rw [inOf, show k = m from by omega]
    have hsl : (sprdN es (oneAt m v) k).length = m := by rw [sprdN_length]; simp [oneAt]
    refine cw_region ?_
    refine wl_r (or_buildSlice (e := 3) (size := 1) (is := []) (vs := []) (cs := cells fI ([])) rfl rfl rfl (by decide) (fun _ => by kernel_rfl)) rfl rfl (kt1 rfl (fun g55 => ?_))
    refine wl_v (ov_assign rfl) rfl rfl rfl ?_
    refine wl_nil ?_
    refine ce_then ?_
    refine cw_seq ?_
    refine cw_seq ?_
    refine cw_region ?_
    refine wl_v (ov_assign rfl) rfl rfl rfl ?_
    refine wl_nil ?_
    refine ce_then ?_
    refine cw_block ?_
    refine cw_loop3 (fun (j : Nat) (A3 : Option Addr) (c3 : Nat) => [(2, elp (some ⟨g2, 0, none⟩) (0)), (4, .slice none (0) (0)), (5, .slice (some ⟨g13, 0, none⟩) (m) (m)), (9, .slice A3 ((trues (inOf m es v) j).length) (c3)), (10, .int .i64 (((j : Nat) : Int)))]) (fun (j : Nat) (A3 : Option Addr) (c3 : Nat) => [row 3 1 A3 ((trues (inOf m es v) j).length) (c3) (cells fI (trues (inOf m es v) j)), row 4 1 (some ⟨g13, 0, none⟩) (m) (m) (cells fB (sprdN es (oneAt m v) k)), blk g2 [.int .i64 (((m : Nat) : Int)), .slice A (es.length) (c)] 25]) (fun (j : Nat) (A3 : Option Addr) (c3 : Nat) => j ≤ m ∧ (trues (inOf m es v) j).length ≤ c3) (fun (j : Nat) (A3 : Option Addr) (c3 : Nat) => m - j) 0 (some ⟨g55, 0, none⟩) 0 ⟨by omega, Nat.le_refl _⟩ (.cons rfl (.cons rfl (.cons rfl (.cons rfl (.cons (congrArg (fun z => some (Value.int .i64 z)) (show 0 = ((0 : Nat) : Int) by first | omega | rfl | (simp; done))) (.nil)))))) (.consE (show row 3 1 (some ⟨g55, 0, none⟩) (0) (0) (cells fI ([])) = row 3 1 (some ⟨g55, 0, none⟩) ((trues (inOf m es v) 0).length) (0) (cells fI (trues (inOf m es v) 0)) by rfl) (.head) (.cons (.head) (.cons (.head) (.nil)))) ?_
    intro R2 j A3 c3 hk2 hR2
    obtain ⟨hj1, hj2⟩ := hk2
    have htl := trues_len (inOf m es v) j
    refine cw_seq ?_
    refine cw_seq ?_
    refine cw_region ?_
    refine wl_v (ov_move rfl) rfl rfl rfl ?_
    refine wl_v (ov_fieldAddr fI25_0 some_lit rfl) rfl rfl rfl ?_
    refine wl_v (ov_load tI3 (holds_blk (List.Mem.tail _ (List.Mem.tail _ (List.Mem.head _)))) rfl rfl) rfl rfl rfl ?_
    refine wl_if (ov_lss rfl rfl) rfl rfl rfl (fun c59 => ?_) (fun c59 => ?_)
    ·
      refine wl_nil ?_
      refine ce_then ?_
      refine cw_true rfl ?_
      refine cw_skip ?_
      refine ce_then ?_
      refine cw_seq ?_
      refine cw_block ?_
      refine cw_seq ?_
      refine cw_region ?_
      refine wl_v (ov_move rfl) rfl rfl rfl ?_
      refine wl_v (ov_move rfl) rfl rfl rfl ?_
      refine wl_v (ov_index (k := j) (c := m) sI144 tI4 rfl rfl (some_holds (q := j * 1) (holds_row (List.Mem.tail _ (List.Mem.head _))) (by rw [cells_length fB_len]; have hlt : j < (sprdN es (oneAt m v) k).length := (by omega); omega)) (show j < m from (by omega))) rfl rfl rfl ?_
      refine wl_if (OpV.dec (ov_load tI4 (holds_row (List.Mem.tail _ (List.Mem.head _))) rfl (get_fB (show j < (sprdN es (oneAt m v) k).length from (by omega))))) rfl rfl rfl (fun c65 => ?_) (fun c65 => ?_)
      ·
        refine wl_nil ?_
        refine ce_then ?_
        refine cw_true rfl ?_
        refine cw_region ?_
        refine wl_v (ov_move rfl) rfl rfl rfl ?_
        refine wl_v (ov_move rfl) rfl rfl rfl ?_
        refine wl_r (or_buildSlice (e := 3) (size := 1) (is := [0]) (vs := [.int .i64 (((j : Nat) : Int))]) (cs := cells fI ([((j : Nat) : Int)])) rfl rfl rfl (by decide) (fun _ => by kernel_rfl)) rfl rfl (kt1 rfl (fun g68 => ?_))
        refine wl_r (or_append (c2 := 1) sI38 tI3 rfl (by decide) rfl rfl (.tail .head) (holds_row (List.Mem.head _)) (by rw [cells_length fI_len]; try simp) (one_cells fI_one _) cells_append (by omega) (by omega)) rfl rfl (kt2p rfl (fun A69 c69 h69 => ?_))
        refine wl_v (ov_assign rfl) rfl rfl rfl ?_
        refine wl_nil ?_
        refine ce_block ?_
        refine ce_then ?_
        refine cw_region ?_
        refine wl_v (ov_move rfl) rfl rfl rfl ?_
        refine wl_v (ov_add (r := ((j + 1 : Nat) : Int)) rfl rfl rfl (by omega)) rfl rfl rfl ?_
        refine wl_v (ov_assign rfl) rfl rfl rfl ?_
        refine wl_nil ?_
        exact fun ac_ w_ hs_ => hR2 (j + 1) A69 c69 ⟨by omega, by rw [trues_succ_t (by rw [← hkm]; exact c65), List.length_append]; exact h69⟩ (by omega) ac_ w_ (hs_.weaken (.cons rfl (.cons rfl (.cons rfl (.cons (congrArg (fun z => some (Value.slice A69 z c69)) (show (((trues (inOf m es v) j).length) + 1) = ((trues (inOf m es v) (j + 1)).length) from (by rw [trues_succ_t (by rw [← hkm]; exact c65), List.length_append]; rfl))) (.cons rfl (.nil)))))) (.consE (show row 3 1 A69 (((trues (inOf m es v) j).length) + 1) (c69) (cells fI ((trues (inOf m es v) j) ++ ([((j : Nat) : Int)]))) = row 3 1 A69 ((trues (inOf m es v) (j + 1)).length) (c69) (cells fI (trues (inOf m es v) (j + 1))) by rw [trues_succ_t (by rw [← hkm]; exact c65)]; exact row_eq (by rw [List.length_append]; rfl) rfl) (.head) (.cons (.tail .head) (.cons (.tail .head) (.nil)))))
      ·
        refine wl_nil ?_
        refine ce_then ?_
        refine cw_false rfl ?_
        refine cw_skip ?_
        refine ce_block ?_
        refine ce_then ?_
        refine cw_region ?_
        refine wl_v (ov_move rfl) rfl rfl rfl ?_
        refine wl_v (ov_add (r := ((j + 1 : Nat) : Int)) rfl rfl rfl (by omega)) rfl rfl rfl ?_
        refine wl_v (ov_assign rfl) rfl rfl rfl ?_
        refine wl_nil ?_
        exact fun ac_ w_ hs_ => hR2 (j + 1) A3 c3 ⟨by omega, by rw [trues_succ_f (by rw [← hkm]; simpa using c65)]; exact hj2⟩ (by omega) ac_ w_ (hs_.weaken (.cons rfl (.cons rfl (.cons rfl (.cons (congrArg (fun z => some (Value.slice A3 z c3)) (show ((trues (inOf m es v) j).length) = ((trues (inOf m es v) (j + 1)).length) from (by rw [trues_succ_f (by rw [← hkm]; simpa using c65)]))) (.cons rfl (.nil)))))) (.consE (show row 3 1 A3 ((trues (inOf m es v) j).length) (c3) (cells fI (trues (inOf m es v) j)) = row 3 1 A3 ((trues (inOf m es v) (j + 1)).length) (c3) (cells fI (trues (inOf m es v) (j + 1))) by rw [trues_succ_f (by rw [← hkm]; simpa using c65)]) (.head) (.cons (.head) (.cons (.head) (.nil)))))
    ·
      refine wl_nil ?_
      refine ce_then ?_
      refine cw_false rfl ?_
      refine cw_exit ?_
      refine ce_then_exit ?_
      refine ce_then_exit ?_
      refine ce_hit ?_
      refine ce_then ?_
      refine cw_seq ?_
      refine cw_region ?_
      refine wl_v (ov_move rfl) rfl rfl rfl ?_
      refine wl_v (ov_assign rfl) rfl rfl rfl ?_
      refine wl_nil ?_
      refine ce_then ?_
      refine cw_ret ?_
      refine ce_results (v := .slice A3 ((trues (inOf m es v) j).length) (c3)) (res1 rfl (rv_t rfl)) (fun w' hw => ?_)
      exact ⟨A3, c3, (by rw [compOf, show trues (inOf m es v) m = trues (inOf m es v) j from by rw [show m = j from by omega]]; exact hj2), (by rw [compOf, show trues (inOf m es v) m = trues (inOf m es v) j from by rw [show m = j from by omega]]), ((.consE (show row 3 1 A3 ((trues (inOf m es v) j).length) (c3) (cells fI (trues (inOf m es v) j)) = row 3 1 A3 ((compOf m es v).length) (c3) (cells fI (compOf m es v)) by rw [compOf, show trues (inOf m es v) m = trues (inOf m es v) j from by rw [show m = j from by omega]]) (.head) (.nil) : Keep _ _).ss hw).to_new⟩
set_option maxRecDepth 100000 in
theorem componentsS_c (w : World) (m : Nat) (A : Option Addr) (n : Nat) (c : Nat) (es : List (Int × Int)) (hA : At w A (cells fE es)) (eA : es.length = n) (lA : n ≤ c) (hg : Gr m es) (hm : m ≤ 7) : Calls Try.prog 85 #[.agg #[.int .i64 (((m : Nat) : Int)), .slice A (n) (c)]] w (Ret fun rv w' => ∃ A2 c2 k2 hs, ((compsL m es).length ≤ k2) ∧ rv = .slice A2 ((compsL m es).length) (k2) ∧ New w w' [row 38 1 A2 ((compsL m es).length) (c2) (cells fL hs), nest 3 1 fI hs (compsL m es)]) := by
  have oA := hA.atB
  subst eA
  have hel := hg.len (by omega)
  refine fn_enter (args := [.agg #[.int .i64 (((m : Nat) : Int)), .slice A (es.length) (c)]]) Try.func85 rfl Try.ntmps85 rfl (SS.start w) ?_
  refine cw_seq ?_
  refine cw_region ?_
  refine wl_r (or_box rfl rfl) rfl rfl (kt1 rfl (fun g1 => ?_))
  refine wl_v (ov_assign rfl) rfl rfl rfl ?_
  refine wl_nil ?_
  refine ce_then ?_
  refine cw_seq ?_
  refine cw_region ?_
  refine wl_r (or_buildSlice (e := 38) (size := 1) (is := []) (vs := []) (cs := cells fL ([])) rfl rfl rfl (by decide) (fun _ => by kernel_rfl)) rfl rfl (kt1 rfl (fun g6 => ?_))
  refine wl_v (ov_assign rfl) rfl rfl rfl ?_
  refine wl_nil ?_
  refine ce_then ?_
  refine cw_seq ?_
  refine cw_seq ?_
  refine ct_nest0 3 1 fI ?_
  refine cw_region ?_
  refine wl_v (ov_assign rfl) rfl rfl rfl ?_
  refine wl_nil ?_
  refine ce_then ?_
  refine cw_block ?_
  refine cw_loop4 (fun (k : Nat) (A2 : Option Addr) (c2 : Nat) (hs : List Hd) => [(1, elp (some ⟨g1, 0, none⟩) (0)), (2, .slice none (0) (0)), (3, .slice A2 ((compsTo m es k).length) (c2)), (4, .int .i64 (((k : Nat) : Int)))]) (fun (k : Nat) (A2 : Option Addr) (c2 : Nat) (hs : List Hd) => [nest 3 1 fI hs (compsTo m es k), row 38 1 A2 ((compsTo m es k).length) (c2) (cells fL hs), blk g1 [.int .i64 (((m : Nat) : Int)), .slice A (es.length) (c)] 25]) (fun (k : Nat) (A2 : Option Addr) (c2 : Nat) (hs : List Hd) => k ≤ m ∧ (compsTo m es k).length ≤ c2) (fun (k : Nat) (A2 : Option Addr) (c2 : Nat) (hs : List Hd) => m - k) 0 (some ⟨g6, 0, none⟩) 0 ([]) ⟨by omega, Nat.le_refl _⟩ (.cons rfl (.cons rfl (.cons (congrArg (fun z => some (Value.slice (some ⟨g6, 0, none⟩) z 0)) (show 0 = ((compsTo m es 0).length) from rfl)) (.cons (congrArg (fun z => some (Value.int .i64 z)) (show 0 = ((0 : Nat) : Int) by first | omega | rfl | (simp; done))) (.nil))))) (.consE (show nest 3 1 fI ([]) ([]) = nest 3 1 fI ([]) (compsTo m es 0) by rfl) (.head) (.consE (show row 38 1 (some ⟨g6, 0, none⟩) (0) (0) (cells fL ([])) = row 38 1 (some ⟨g6, 0, none⟩) ((compsTo m es 0).length) (0) (cells fL ([])) by rfl) (.head) (.cons (.head) (.nil)))) ?_
  intro R0 k A2 c2 hs hk hR0
  obtain ⟨hk1, hk2⟩ := hk
  have hcl := comps_len m es k
  refine cw_seq ?_
  refine cw_seq ?_
  refine cw_region ?_
  refine wl_v (ov_move rfl) rfl rfl rfl ?_
  refine wl_v (ov_fieldAddr fI25_0 some_lit rfl) rfl rfl rfl ?_
  refine wl_v (ov_load tI3 (holds_blk (List.Mem.tail _ (List.Mem.tail _ (List.Mem.head _)))) rfl rfl) rfl rfl rfl ?_
  refine wl_if (ov_lss rfl rfl) rfl rfl rfl (fun c10 => ?_) (fun c10 => ?_)
  ·
    refine wl_nil ?_
    refine ce_then ?_
    refine cw_true rfl ?_
    refine cw_skip ?_
    refine ce_then ?_
    refine cw_seq ?_
    refine cw_block ?_
    refine cw_seq ?_
    refine cw_region ?_
    refine wl_v (ov_loadAgg (vs := [.int .i64 (((m : Nat) : Int)), .slice A (es.length) (c)]) tI25 (holds_blk (List.Mem.tail _ (List.Mem.tail _ (List.Mem.head _)))) rfl some_lit rfl rfl) rfl rfl rfl ?_
    refine wl_v (ov_move rfl) rfl rfl rfl ?_
    refine wl_r (or_call (fv := []) (vs := [.agg #[.int .i64 (((m : Nat) : Int)), .slice A (es.length) (c)], .int .i64 (((k : Nat) : Int))]) (cs := []) en115 rfl rfl (call_x2 (fun w hw => componentS_c w m A es.length c es k ((holds_old oA) w hw) rfl lA (by first | assumption | omega | (simp; omega)) (by first | assumption | omega | (simp; omega)) (by first | assumption | omega | (simp; omega))))) rfl rfl (kt2p rfl (fun A2_15 c2_15 h_15 => ?_))
    have hcp := comp_pos hg (v := k) (by omega)
    refine wl_v (ov_assign rfl) rfl rfl rfl ?_
    refine wl_nil ?_
    refine ce_then ?_
    refine cw_seq ?_
    refine cw_region ?_
    refine wl_v (ov_move rfl) rfl rfl rfl ?_
    refine wl_v (ov_index (k := 0) (c := c2_15) sI38 tI3 rfl rfl (some_holds (q := 0 * 1) (holds_row (List.Mem.head _)) (by rw [cells_length fI_len]; have hlt : 0 < (compOf m es k).length := (by omega); omega)) (show 0 < (compOf m es k).length from (by omega))) rfl rfl rfl ?_
    refine wl_v (ov_load tI3 (holds_row (List.Mem.head _)) rfl ((get_fI (show 0 < (compOf m es k).length from (by omega))).trans (congrArg (fun z => some (Value.int .i64 z)) (show ((compOf m es k).getD 0 0) = (rootsOf m es).getD k 0 from (comp_head hg (by omega)))))) rfl rfl rfl ?_
    refine wl_v (ov_move rfl) rfl rfl rfl ?_
    refine wl_if (ov_eql rfl rfl) rfl rfl rfl (fun c20 => ?_) (fun c20 => ?_)
    ·
      refine wl_nil ?_
      refine ce_then ?_
      refine cw_true rfl ?_
      refine cw_region ?_
      refine wl_v (ov_move rfl) rfl rfl rfl ?_
      refine wl_v (ov_move rfl) rfl rfl rfl ?_
      refine wl_r (or_buildSlice (e := 38) (size := 1) (is := [0]) (vs := [.slice A2_15 ((compOf m es k).length) (c2_15)]) (cs := cells fL ([(A2_15, (compOf m es k).length, c2_15)])) rfl rfl rfl (by decide) (fun _ => by kernel_rfl)) rfl rfl (kt1 rfl (fun g23 => ?_))
      refine wl_r (or_append (c2 := 1) sI106 tI38 rfl (by decide) rfl rfl (.tail (.tail (.tail .head))) (holds_row (List.Mem.head _)) (by rw [cells_length fL_len]; try simp) (one_cells fL_one _) cells_append (by omega) (by omega)) rfl rfl (kt2p rfl (fun A24 c24 h24 => ?_))
      refine ct_push (k := c2_15) (.cons (.tail (.tail (.tail .head))) (.cons (.tail (.tail .head)) (.cons (.head) (.cons (.head) (.cons (.head) (.nil)))))) (rfl) (h_15) ?_
      refine wl_v (ov_assign rfl) rfl rfl rfl ?_
      refine wl_nil ?_
      refine ce_block ?_
      refine ce_then ?_
      refine cw_region ?_
      refine wl_v (ov_move rfl) rfl rfl rfl ?_
      refine wl_v (ov_add (r := ((k + 1 : Nat) : Int)) rfl rfl rfl (by omega)) rfl rfl rfl ?_
      refine wl_v (ov_assign rfl) rfl rfl rfl ?_
      refine wl_nil ?_
      exact fun ac_ w_ hs_ => hR0 (k + 1) A24 c24 (hs ++ ([(A2_15, (compOf m es k).length, c2_15)])) ⟨by omega, by rw [comps_succ_t c20, List.length_append]; exact h24⟩ (by omega) ac_ w_ (hs_.weaken (.cons rfl (.cons rfl (.cons (congrArg (fun z => some (Value.slice A24 z c24)) (show (((compsTo m es k).length) + 1) = ((compsTo m es (k + 1)).length) from (by rw [comps_succ_t c20, List.length_append]; rfl))) (.cons rfl (.nil))))) (.consE (show nest 3 1 fI (hs ++ [(A2_15, (compOf m es k).length, c2_15)]) (compsTo m es k ++ [compOf m es k]) = nest 3 1 fI (hs ++ ([(A2_15, (compOf m es k).length, c2_15)])) (compsTo m es (k + 1)) by rw [comps_succ_t c20]; rw [show compOf m es k = partOf (rootsOf m es) ((k : Nat) : Int) m from by rw [comp_part hg (by omega), c20]]) (.head) (.consE (show row 38 1 A24 (((compsTo m es k).length) + 1) (c24) (cells fL (hs ++ ([(A2_15, (compOf m es k).length, c2_15)]))) = row 38 1 A24 ((compsTo m es (k + 1)).length) (c24) (cells fL (hs ++ ([(A2_15, (compOf m es k).length, c2_15)]))) by rw [comps_succ_t c20, List.length_append]; rfl) (.head) (.cons (.tail .head) (.nil)))))
    ·
      refine wl_nil ?_
      refine ce_then ?_
      refine cw_false rfl ?_
      refine cw_skip ?_
      refine ce_block ?_
      refine ce_then ?_
      refine cw_region ?_
      refine wl_v (ov_move rfl) rfl rfl rfl ?_
      refine wl_v (ov_add (r := ((k + 1 : Nat) : Int)) rfl rfl rfl (by omega)) rfl rfl rfl ?_
      refine wl_v (ov_assign rfl) rfl rfl rfl ?_
      refine wl_nil ?_
      exact fun ac_ w_ hs_ => hR0 (k + 1) A2 c2 hs ⟨by omega, by rw [comps_succ_f c20]; exact hk2⟩ (by omega) ac_ w_ (hs_.weaken (.cons rfl (.cons rfl (.cons (congrArg (fun z => some (Value.slice A2 z c2)) (show ((compsTo m es k).length) = ((compsTo m es (k + 1)).length) from (by rw [comps_succ_f c20]))) (.cons rfl (.nil))))) (.consE (show nest 3 1 fI hs (compsTo m es k) = nest 3 1 fI hs (compsTo m es (k + 1)) by rw [comps_succ_f c20]) (.tail .head) (.consE (show row 38 1 A2 ((compsTo m es k).length) (c2) (cells fL hs) = row 38 1 A2 ((compsTo m es (k + 1)).length) (c2) (cells fL hs) by rw [comps_succ_f c20]) (.tail .head) (.cons (.tail .head) (.nil)))))
  ·
    refine wl_nil ?_
    refine ce_then ?_
    refine cw_false rfl ?_
    refine cw_exit ?_
    refine ce_then_exit ?_
    refine ce_then_exit ?_
    refine ce_hit ?_
    refine ce_then ?_
    refine cw_seq ?_
    refine cw_region ?_
    refine wl_v (ov_move rfl) rfl rfl rfl ?_
    refine wl_v (ov_assign rfl) rfl rfl rfl ?_
    refine wl_nil ?_
    refine ce_then ?_
    refine cw_ret ?_
    refine ce_results (v := .slice A2 ((compsTo m es k).length) (c2)) (res1 rfl (rv_t rfl)) (fun w' hw => ?_)
    exact ⟨A2, c2, c2, hs, (by rw [compsL, show compsTo m es m = compsTo m es k from by rw [show m = k from by omega]]; exact hk2), (by rw [compsL, show compsTo m es m = compsTo m es k from by rw [show m = k from by omega]]), ((.consE (show row 38 1 A2 ((compsTo m es k).length) (c2) (cells fL hs) = row 38 1 A2 ((compsL m es).length) (c2) (cells fL hs) by rw [compsL, show compsTo m es m = compsTo m es k from by rw [show m = k from by omega]]) (.tail .head) (.consE (show nest 3 1 fI hs (compsTo m es k) = nest 3 1 fI hs (compsL m es) by rw [compsL, show compsTo m es m = compsTo m es k from by rw [show m = k from by omega]]) (.head) (.nil)) : Keep _ _).ss hw).to_new⟩
end Go.Proofs.Ytkkllkkjdbpjpaa.W13
