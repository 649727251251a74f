/- Walks of functions of the given program: each returns what its Lean function says and leaves the memory that was there as it was. Conditions: those of each theorem. -/
import Derived.Test.YtkkllkkjdbpjpaaSm
import Derived.Test.YtkkllkkjdbpjpaaProg
import Derived.Test.YtkkllkkjdbpjpaaPl
import Derived.Test.YtkkllkkjdbpjpaaPo
import Derived.Test.YtkkllkkjdbpjpaaPd
import Derived.Test.YtkkllkkjdbpjpaaPe
import Derived.Test.YtkkllkkjdbpjpaaPh
import Derived.Test.YtkkllkkjdbpjpaaPm
import Derived.Test.YtkkllkkjdbpjpaaPc
import Derived.Test.YtkkllkkjdbpjpaaPs
import Derived.Test.YtkkllkkjdbpjpaaPt
import Derived.Test.YtkkllkkjdbpjpaaPu
import Derived.Test.YtkkllkkjdbpjpaaPv
import Derived.Test.YtkkllkkjdbpjpaaPw
import Derived.Test.YtkkllkkjdbpjpaaPx
import Derived.Test.YtkkllkkjdbpjpaaPy
import Derived.Test.YtkkllkkjdbpjpaaPz
import Derived.Test.YtkkllkkjdbpjpaaPr
import Derived.Test.YtkkllkkjdbpjpaaPa
import Derived.Test.YtkkllkkjdbpjpaaPn
import Derived.Test.YtkkllkkjdbpjpaaPj
import Derived.Test.YtkkllkkjdbpjpaaPq
import Derived.Test.YtkkllkkjdbpjpaaSp
import Derived.Test.YtkkllkkjdbpjpaaPp
import Derived.Test.YtkkllkkjdbpjpaaSs
import Derived.Test.YtkkllkkjdbpjpaaSr
import Derived.Test.YtkkllkkjdbpjpaaPb
import Derived.Test.YtkkllkkjdbpjpaaSe
import Derived.Test.YtkkllkkjdbpjpaaSf
import Derived.Test.YtkkllkkjdbpjpaaT
import Derived.KernelRfl
namespace Go.Proofs.Ytkkllkkjdbpjpaa.W13
open Go.Sx Go.RowKit Go.Proofs.Ytkkllkkjdbpjpaa.T
open Go.Plain
set_option linter.unusedVariables false
set_option maxRecDepth 100000 in
theorem cloneE_c (w : World) (A : Option Addr) (n : Nat) (c : Nat) (es : List (Int × Int)) (hA : At w A (cells fE es)) (eA : es.length = n) (lA : n ≤ c) (hs : es.length ≤ 1048576) : Calls Try.prog 92 #[.slice A (n) (c)] w (Ret fun rv w' => ∃ A2 c2, (n ≤ c2) ∧ rv = .slice A2 (n) (c2) ∧ New w w' [row 65 2 A2 (n) (c2) (cells fE es)]) := by
  have oA := hA.atB
  subst eA
  refine fn_enter (args := [.slice A (es.length) (c)]) Try.func92 rfl Try.ntmps92 rfl (SS.start w) ?_
  refine cw_seq ?_
  refine cw_region ?_
  refine wl_v (ov_assign rfl) rfl rfl rfl ?_
  refine wl_nil ?_
  refine ce_then ?_
  refine cw_seq ?_
  refine cw_seq ?_
  refine cw_region ?_
  refine wl_v (ov_move rfl) rfl rfl rfl ?_
  refine wl_if (ov_eqlnil sI23 rfl rfl) rfl rfl rfl (fun c4 => ?_) (fun c4 => ?_)
  ·
    subst c4; have hx0 := at_none fE_len (by decide) hA; subst hx0
    refine ct_none fE 65 2 ?_
    refine wl_nil ?_
    refine ce_then ?_
    refine cw_true rfl ?_
    refine cw_seq ?_
    refine cw_region ?_
    refine wl_v (ov_assign rfl) rfl rfl rfl ?_
    refine wl_nil ?_
    refine ce_then ?_
    refine cw_ret ?_
    refine ce_then_ret ?_
    refine ce_results (v := .slice none (0) (0)) (res1 rfl (rv_t rfl)) (fun w' hw => ?_)
    exact ⟨none, 0, (Nat.le_refl _), rfl, ((.cons (.head) (.nil) : Keep _ _).ss hw).to_new⟩
  ·
    refine wl_nil ?_
    refine ce_then ?_
    refine cw_false rfl ?_
    refine cw_skip ?_
    refine ce_then ?_
    refine cw_seq ?_
    refine cw_region ?_
    refine wl_r (or_buildSlice (e := 65) (size := 2) (is := []) (vs := []) (cs := cells fE ([])) rfl rfl rfl (by decide) (fun _ => by kernel_rfl)) rfl rfl (kt1 rfl (fun g5 => ?_))
    refine wl_v (ov_move rfl) rfl rfl rfl ?_
    refine wl_r (or_append (c2 := c) sI23 tI65 rfl (by decide) rfl rfl (.head) (holds_old oA) (by rw [cells_length fE_len]; try simp) (one_cells fE_one _) cells_append (by omega) (by omega)) rfl rfl (kt2p rfl (fun A7 c7 h7 => ?_))
    refine wl_v (ov_assign rfl) rfl rfl rfl ?_
    refine wl_nil ?_
    refine ce_then ?_
    refine cw_ret ?_
    refine ce_results (v := .slice A7 (0 + es.length) (c7)) (res1 rfl (rv_t rfl)) (fun w' hw => ?_)
    exact ⟨A7, c7, (by omega), (by simp), ((.consE (show row 65 2 A7 (0 + es.length) (c7) (cells fE (([]) ++ es)) = row 65 2 A7 (es.length) (c7) (cells fE es) by simp) (.head) (.nil) : Keep _ _).ss hw).to_new⟩
set_option maxRecDepth 100000 in
theorem clipE_c (w : World) (A : Option Addr) (n : Nat) (c : Nat) (es : List (Int × Int)) (hA : At w A (cells fE es)) (eA : es.length = n) (lA : n ≤ c) : Calls Try.prog 91 #[.slice A (n) (c)] w (Ret fun rv w' => rv = .slice A (n) (n) ∧ New w w' []) := by
  have oA := hA.atB
  subst eA
  refine fn_enter (args := [.slice A (es.length) (c)]) Try.func91 rfl Try.ntmps91 rfl (SS.start w) ?_
  refine cw_seq ?_
  refine cw_region ?_
  refine wl_v (ov_assign rfl) rfl rfl rfl ?_
  refine wl_nil ?_
  refine ce_then ?_
  refine cw_seq ?_
  refine cw_region ?_
  refine wl_v (ov_move rfl) rfl rfl rfl ?_
  refine wl_v (ov_move rfl) rfl rfl rfl ?_
  refine wl_v (ov_len (sliceI_spec sI23) rfl) rfl rfl rfl ?_
  refine wl_v (ov_move rfl) rfl rfl rfl ?_
  refine wl_v (ov_len (sliceI_spec sI23) rfl) rfl rfl rfl ?_
  refine wl_v (ov_slice_hm (h := es.length) (mx := es.length) sI23 tI65 rfl rfl rfl (Nat.le_refl _) lA) rfl rfl rfl ?_
  refine wl_v (ov_assign rfl) rfl rfl rfl ?_
  refine wl_nil ?_
  refine ce_then ?_
  refine cw_ret ?_
  refine ce_results (v := .slice A (es.length) (es.length)) (res1 rfl (rv_t rfl)) (fun w' hw => ?_)
  exact ⟨rfl, (Keep.nil.ss hw).to_new⟩
set_option maxRecDepth 100000 in
theorem cloneCE_c (w : World) (A : Option Addr) (n : Nat) (c : Nat) (es : List (Int × Int)) (hA : At w A (cells fE es)) (eA : es.length = n) (lA : n ≤ c) (hs : es.length ≤ 1048576) : Calls Try.prog 49 #[.slice A (n) (c)] w (Ret fun rv w' => ∃ A2 c2, (n ≤ c2) ∧ rv = .slice A2 (n) (n) ∧ New w w' [row 65 2 A2 (n) (c2) (cells fE es)]) := by
  have oA := hA.atB
  subst eA
  refine fn_enter (args := [.slice A (es.length) (c)]) Try.func49 rfl Try.ntmps49 rfl (SS.start w) ?_
  refine cw_seq ?_
  refine cw_region ?_
  refine wl_v (ov_assign rfl) rfl rfl rfl ?_
  refine wl_nil ?_
  refine ce_then ?_
  refine cw_seq ?_
  refine cw_region ?_
  refine wl_v (ov_move rfl) rfl rfl rfl ?_
  refine wl_r (or_call (fv := []) (vs := [.slice A (es.length) (c)]) (cs := []) en92 rfl rfl (call_x2 (fun w hw => cloneE_c w A es.length c es ((holds_old oA) w hw) rfl lA (by first | assumption | omega | (simp; omega))))) rfl rfl (kt2p rfl (fun A2_4 c2_4 h_4 => ?_))
  refine wl_r (or_call (fv := []) (vs := [.slice A2_4 (es.length) (c2_4)]) (cs := []) en91 rfl rfl (call_v (fun w hw => clipE_c w A2_4 es.length c2_4 es ((holds_row (List.Mem.head _)) w hw) rfl h_4))) rfl rfl (kt0 rfl ?_)
  refine wl_v (ov_assign rfl) rfl rfl rfl ?_
  refine wl_nil ?_
  refine ce_then ?_
  refine cw_ret ?_
  refine ce_results (v := .slice A2_4 (es.length) (es.length)) (res1 rfl (rv_t rfl)) (fun w' hw => ?_)
  exact ⟨A2_4, c2_4, h_4, rfl, ((.cons (.head) (.nil) : Keep _ _).ss hw).to_new⟩
set_option maxRecDepth 100000 in
theorem indexFuncE_c (w : World) (A : Option Addr) (n : Nat) (c : Nat) (es : List (Int × Int)) (Fc : FuncId) (cs : List Value) (p : Ed → Bool) (hA : At w A (cells fE es)) (eA : es.length = n) (lA : n ≤ c) (hs : es.length ≤ 1048576) (hen : Enters Try.prog Fc) (hf : ∀ x ∈ es, ∀ w', Below w.heap.size w w' → Calls Try.prog Fc ([] ++ [Value.agg #[.int .i64 x.1, .int .i64 x.2]] ++ cs).toArray w' (Ret fun v w'' => v = .bool (p x) ∧ New w' w'' [])) : Calls Try.prog 51 #[.slice A (n) (c), .func (.func Fc) #[] cs.toArray] w (Ret fun rv w' => rv = .int .i64 (idxF p es) ∧ New w w' []) := by
  have oA := hA.atB
  subst eA
  refine fn_enter (args := [.slice A (es.length) (c), .func (.func Fc) #[] cs.toArray]) Try.func51 rfl Try.ntmps51 rfl (SS.start w) ?_
  refine cw_seq ?_
  refine cw_region ?_
  refine wl_v (ov_assign rfl) rfl rfl rfl ?_
  refine wl_nil ?_
  refine ce_then ?_
  refine cw_seq ?_
  refine cw_seq ?_
  refine cw_region ?_
  refine wl_v (ov_move rfl) rfl rfl rfl ?_
  refine wl_v (ov_len (sliceI_spec sI23) rfl) rfl rfl rfl ?_
  refine wl_v (ov_move rfl) rfl rfl rfl ?_
  refine wl_nil ?_
  refine ce_then ?_
  refine cw_block ?_
  refine cw_loop1 (fun (k : Nat) => [(0, .slice A (es.length) (c)), (1, .func (.func Fc) #[] cs.toArray), (7, .int .i64 (((es.length : Nat) : Int))), (8, .int .i64 (((k : Nat) : Int)))]) (fun (k : Nat) => []) (fun (k : Nat) => k ≤ es.length ∧ ∀ x ∈ es.take k, p x = false) (fun (k : Nat) => es.length - k) 0 ⟨by omega, by simp⟩ (.cons rfl (.cons rfl (.cons rfl (.cons (congrArg (fun z => some (Value.int .i64 z)) (show 0 = ((0 : Nat) : Int) by first | omega | rfl | (simp; done))) (.nil))))) (.nil) ?_
  intro R0 k hk hR0
  obtain ⟨hk1, hk2⟩ := hk
  refine cw_seq ?_
  refine cw_region ?_
  refine wl_if (ov_lss rfl rfl) rfl rfl rfl (fun c9 => ?_) (fun c9 => ?_)
  ·
    refine wl_nil ?_
    refine ce_then ?_
    refine cw_seq ?_
    refine cw_true rfl ?_
    refine cw_skip ?_
    refine ce_then ?_
    refine cw_seq ?_
    refine cw_block ?_
    refine cw_seq ?_
    refine cw_region ?_
    refine wl_v (ov_move rfl) rfl rfl rfl ?_
    refine wl_v (ov_assign rfl) rfl rfl rfl ?_
    refine wl_nil ?_
    refine ce_then ?_
    refine cw_seq ?_
    refine cw_region ?_
    refine wl_v (ov_move rfl) rfl rfl rfl ?_
    refine wl_v (ov_move rfl) rfl rfl rfl ?_
    refine wl_v (ov_move rfl) rfl rfl rfl ?_
    refine wl_v (ov_index (k := k) (c := c) sI23 tI65 rfl rfl (some_holds (q := k * 2) (holds_old oA) (by rw [cells_length fE_len]; have hlt : k < es.length := (by first | omega | (simp; omega)); omega)) (show k < es.length from (by first | omega | (simp; omega)))) rfl rfl rfl ?_
    refine wl_v (ov_loadAgg (vs := [.int .i64 ((es.getD k (0, 0)).1), .int .i64 ((es.getD k (0, 0)).2)]) tI65 (holds_old oA) rfl (some_holds (q := k * 2) (holds_old oA) (by rw [cells_length fE_len]; have hlt : k < es.length := (by first | omega | (simp; omega)); omega)) (cells_elem fE_len (0, 0) (show k < es.length from (by first | omega | (simp; omega)))) rfl) rfl rfl rfl ?_
    refine wl_r (or_call (fv := []) (vs := [.agg #[.int .i64 ((es.getD k (0, 0)).1), .int .i64 ((es.getD k (0, 0)).2)]]) (cs := cs) hen rfl rfl (call_v (fun w hw => hf _ (getD_mem (0, 0) (by omega)) w hw.below))) rfl rfl (kt_ifb rfl (fun c16 => ?_) (fun c16 => ?_))
    ·
      refine wl_nil ?_
      refine ce_then ?_
      refine cw_true rfl ?_
      refine cw_seq ?_
      refine cw_region ?_
      refine wl_v (ov_move rfl) rfl rfl rfl ?_
      refine wl_v (ov_assign rfl) rfl rfl rfl ?_
      refine wl_nil ?_
      refine ce_then ?_
      refine cw_ret ?_
      refine ce_block_ret ?_
      refine ce_then_ret ?_
      refine ce_then_ret ?_
      refine ce_block_ret ?_
      refine ce_then_ret ?_
      refine ce_results (v := .int .i64 (((k : Nat) : Int))) (res1 rfl (rv_t rfl)) (fun w' hw => ?_)
      exact ⟨(by rw [idxF_found (0, 0) (by omega) hk2 c16]), (Keep.nil.ss hw).to_new⟩
    ·
      refine wl_nil ?_
      refine ce_then ?_
      refine cw_false rfl ?_
      refine cw_skip ?_
      refine ce_block ?_
      refine ce_then ?_
      refine cw_region ?_
      refine wl_v (ov_add (r := ((k + 1 : Nat) : Int)) rfl rfl rfl (by omega)) rfl rfl rfl ?_
      refine wl_v (ov_move rfl) rfl rfl rfl ?_
      refine wl_nil ?_
      exact fun ac_ w_ hs_ => hR0 (k + 1) ⟨by omega, all_take_step (p := fun x => p x = false) (0, 0) (by omega) hk2 c16⟩ (by omega) ac_ w_ (hs_.weaken (.cons rfl (.cons rfl (.cons rfl (.cons rfl (.nil))))) (.nil))
  ·
    refine wl_nil ?_
    refine ce_then ?_
    refine cw_seq ?_
    refine cw_false rfl ?_
    refine cw_exit ?_
    refine ce_then_exit ?_
    refine ce_then_exit ?_
    refine ce_hit ?_
    refine ce_then ?_
    refine cw_seq ?_
    refine cw_region ?_
    refine wl_v (ov_assign rfl) rfl rfl rfl ?_
    refine wl_nil ?_
    refine ce_then ?_
    refine cw_ret ?_
    refine ce_results (v := .int .i64 (-1)) (res1 rfl (rv_t rfl)) (fun w' hw => ?_)
    exact ⟨(by rw [idxF_none (take_all (k := k) (by omega) hk2)]), (Keep.nil.ss hw).to_new⟩
set_option maxRecDepth 100000 in
theorem deleteFuncE_c (w : World) (w0 : World) (Bd : Nat) (F : List Ent) (A : Option Addr) (n : Nat) (c : Nat) (cv : Nat) (xs : List (Int × Int)) (Fc : FuncId) (cs : List Value) (p : Ed → Bool) (eA : xs.length = n) (lA : n ≤ cv) (hs : n ≤ 1000) (hen : Enters Try.prog Fc) (hf : ∀ x ∈ xs, ∀ ys' w', SS w0 Bd ((row 65 2 A n c (cells fE ys')) :: F) w' → Calls Try.prog Fc ([] ++ [Value.agg #[.int .i64 x.1, .int .i64 x.2]] ++ cs).toArray w' (Ret fun v w'' => v = .bool (p x) ∧ New w' w'' [])) (hss : SS w0 Bd ((row 65 2 A (n) (c) (cells fE xs)) :: F) w) : Calls Try.prog 99 #[.slice A (n) (cv), .func (.func Fc) #[] cs.toArray] w (Ret fun rv w' => rv = .slice A ((xs.filter (fun x => !p x)).length) (cv) ∧ SS w0 Bd ((row 65 2 A ((xs.filter (fun x => !p x)).length) (c) (cells fE (xs.filter (fun x => !p x)))) :: F) w') := by
  subst eA
  have hcs := idxF_cases (0, 0) p xs
  refine fn_enter (args := [.slice A (xs.length) (cv), .func (.func Fc) #[] cs.toArray]) Try.func99 rfl Try.ntmps99 rfl hss ?_
  refine cw_seq ?_
  refine cw_region ?_
  refine wl_v (ov_assign rfl) rfl rfl rfl ?_
  refine wl_nil ?_
  refine ce_then ?_
  refine cw_seq ?_
  refine cw_region ?_
  refine wl_v (ov_move rfl) rfl rfl rfl ?_
  refine wl_v (ov_move rfl) rfl rfl rfl ?_
  refine wl_r (or_call (fv := []) (vs := [.slice A (xs.length) (cv), .func (.func Fc) #[] cs.toArray]) (cs := []) en51 rfl rfl (call_v (fun w hw => indexFuncE_c w A xs.length cv xs Fc cs p ((holds_row (List.Mem.head _)) w hw) rfl lA (by first | assumption | omega | (simp; omega)) (by first | assumption | omega | (simp; omega)) (fun x hx w' hb => hf x hx xs w' (hw.later hb))))) rfl rfl (kt0 rfl ?_)
  refine wl_v (ov_assign rfl) rfl rfl rfl ?_
  refine wl_nil ?_
  refine ce_then ?_
  refine cw_seq ?_
  refine cw_seq ?_
  refine cw_region ?_
  refine wl_v (ov_move rfl) rfl rfl rfl ?_
  refine wl_if (ov_eql rfl rfl) rfl rfl rfl (fun c12 => ?_) (fun c12 => ?_)
  ·
    refine wl_nil ?_
    refine ce_then ?_
    refine cw_true rfl ?_
    refine cw_seq ?_
    refine cw_region ?_
    refine wl_v (ov_move rfl) rfl rfl rfl ?_
    refine wl_v (ov_assign rfl) rfl rfl rfl ?_
    refine wl_nil ?_
    refine ce_then ?_
    refine cw_ret ?_
    refine ce_then_ret ?_
    refine ce_results (v := .slice A (xs.length) (cv)) (res1 rfl (rv_t rfl)) (fun w' hw => ?_)
    exact ⟨(by rw [filter_none (hcs.elim (fun h => h.2) (fun ⟨k, hk, _⟩ => by omega))]), ((.consE (show row 65 2 A (xs.length) (c) (cells fE xs) = row 65 2 A ((xs.filter (fun x => !p x)).length) (c) (cells fE (xs.filter (fun x => !p x))) by rw [filter_none (hcs.elim (fun h => h.2) (fun ⟨k, hk, _⟩ => by omega))]) (.head) (.refl) : Keep _ _).ss hw)⟩
  ·
    refine wl_nil ?_
    refine ce_then ?_
    refine cw_false rfl ?_
    refine cw_skip ?_
    refine ce_then ?_
    refine cw_seq ?_
    refine cw_seq ?_
    obtain ⟨k0, hk0, hkl, hkp, hkn⟩ := hcs.resolve_left (fun h => c12 h.1)
    refine ct_keep (L' := [(0, .slice A (xs.length) (cv)), (1, .func (.func Fc) #[] cs.toArray), (4, .slice none (0) (0)), (5, .int .i64 (((k0 : Nat) : Int))), (8, .slice A (xs.length) (cv)), (9, .func (.func Fc) #[] cs.toArray), (10, .int .i64 (idxF p xs)), (11, .int .i64 (idxF p xs)), (12, .bool false)]) (.cons rfl (.cons rfl (.cons rfl (.cons (congrArg (fun z => some (Value.int .i64 z)) (show (idxF p xs) = ((k0 : Nat) : Int) from hk0)) (.cons rfl (.cons rfl (.cons rfl (.cons rfl (.cons rfl (.nil)))))))))) .refl ?_
    refine cw_region ?_
    refine wl_v (ov_move rfl) rfl rfl rfl ?_
    refine wl_v (ov_add (r := ((k0 + 1 : Nat) : Int)) rfl rfl rfl (by omega)) rfl rfl rfl ?_
    refine wl_v (ov_assign rfl) rfl rfl rfl ?_
    refine wl_nil ?_
    refine ce_then ?_
    refine cw_block ?_
    refine cw_loop3 (fun (j : Nat) (i : Nat) (ys : List (Int × Int)) => [(0, .slice A (xs.length) (cv)), (1, .func (.func Fc) #[] cs.toArray), (4, .slice none (0) (0)), (5, .int .i64 (((i : Nat) : Int))), (6, .int .i64 (((j : Nat) : Int)))]) (fun (j : Nat) (i : Nat) (ys : List (Int × Int)) => (row 65 2 A (xs.length) (c) (cells fE ys)) :: F) (fun (j : Nat) (i : Nat) (ys : List (Int × Int)) => j ≤ xs.length ∧ i < j ∧ ys.length = xs.length ∧ ys.take i = (xs.take j).filter (fun x => !p x) ∧ ys.drop j = xs.drop j) (fun (j : Nat) (i : Nat) (ys : List (Int × Int)) => xs.length - j) (k0 + 1) k0 xs ⟨by omega, by omega, rfl, del_init (0, 0) hkl (fun x hx => by rw [hkn x hx]; rfl) (by rw [hkp]; rfl), rfl⟩ (.cons rfl (.cons rfl (.cons rfl (.cons rfl (.cons rfl (.nil)))))) (.cons (.head) (.refl)) ?_
    intro R0 j i ys hk hR0
    obtain ⟨hj1, hj2, hyl, hyt, hyd⟩ := hk
    refine cw_seq ?_
    refine cw_seq ?_
    refine cw_region ?_
    refine wl_v (ov_move rfl) rfl rfl rfl ?_
    refine wl_v (ov_move rfl) rfl rfl rfl ?_
    refine wl_v (ov_len (sliceI_spec sI23) rfl) rfl rfl rfl ?_
    refine wl_if (ov_lss rfl rfl) rfl rfl rfl (fun c19 => ?_) (fun c19 => ?_)
    ·
      refine wl_nil ?_
      refine ce_then ?_
      refine cw_true rfl ?_
      refine cw_skip ?_
      refine ce_then ?_
      refine cw_seq ?_
      refine cw_block ?_
      refine cw_seq ?_
      refine cw_region ?_
      refine wl_v (ov_move rfl) rfl rfl rfl ?_
      refine wl_v (ov_move rfl) rfl rfl rfl ?_
      refine wl_v (ov_index (k := j) (c := cv) sI23 tI65 rfl rfl (some_holds (q := j * 2) (holds_row (List.Mem.head _)) (by rw [cells_length fE_len]; have hlt : j < ys.length := (by omega); omega)) (show j < xs.length from (by omega))) rfl rfl rfl ?_
      have hxm : ys.getD j (0, 0) ∈ xs := by rw [getD_of_drop (0, 0) (by omega) hyd]; exact getD_mem _ (by omega)
      refine wl_v (ov_loadAgg (vs := [.int .i64 ((ys.getD j (0, 0)).1), .int .i64 ((ys.getD j (0, 0)).2)]) tI65 (holds_row (List.Mem.head _)) rfl (some_holds (q := j * 2) (holds_row (List.Mem.head _)) (by rw [cells_length fE_len]; have hlt : j < ys.length := (by omega); omega)) (cells_elem fE_len (0, 0) (show j < ys.length from (by omega))) rfl) rfl rfl rfl ?_
      refine wl_r (or_alloc tI65 rfl) rfl rfl (kt1 rfl (fun g7 => ?_))
      refine wl_r0 (or_store_blk (vs := [.int .i64 ((ys.getD j (0, 0)).1), .int .i64 ((ys.getD j (0, 0)).2)]) (cs' := [.int .i64 ((ys.getD j (0, 0)).1), .int .i64 ((ys.getD j (0, 0)).2)]) (.head) tI65 rfl rfl rfl rfl (Nat.le_of_ble_eq_true rfl) rfl) rfl rfl (kn0 ?_)
      refine wl_nil ?_
      refine ce_then ?_
      refine cw_seq ?_
      refine cw_region ?_
      refine wl_v (ov_move rfl) rfl rfl rfl ?_
      refine wl_v (ov_loadAgg (vs := [.int .i64 ((ys.getD j (0, 0)).1), .int .i64 ((ys.getD j (0, 0)).2)]) tI65 (holds_blk (List.Mem.head _)) rfl some_lit rfl rfl) rfl rfl rfl ?_
      refine wl_r (or_call (fv := []) (vs := [.agg #[.int .i64 ((ys.getD j (0, 0)).1), .int .i64 ((ys.getD j (0, 0)).2)]]) (cs := cs) hen rfl rfl (call_v (fun w hw => hf _ hxm _ w ((.cons (.tail .head) ((.drop .refl)) : Keep _ _).ss hw)))) rfl rfl (kt_ifb rfl (fun c28 => ?_) (fun c28 => ?_))
      ·
        refine wl_v (ov_not rfl) rfl rfl rfl ?_
        refine wl_nil ?_
        refine ce_then ?_
        refine cw_false rfl ?_
        refine cw_skip ?_
        refine ce_block ?_
        refine ce_then ?_
        refine cw_region ?_
        refine wl_v (ov_move rfl) rfl rfl rfl ?_
        refine wl_v (ov_add (r := ((j + 1 : Nat) : Int)) rfl rfl rfl (by omega)) rfl rfl rfl ?_
        refine wl_v (ov_assign rfl) rfl rfl rfl ?_
        refine wl_nil ?_
        exact fun ac_ w_ hs_ => hR0 (j + 1) i ys (by have hd := del_skip (q := fun x => !p x) (0, 0) (by omega) hyt hyd (by rw [c28]; rfl); exact ⟨by omega, by omega, hyl, hd.1, hd.2⟩) (by omega) ac_ w_ (hs_.weaken (.cons rfl (.cons rfl (.cons rfl (.cons rfl (.cons rfl (.nil)))))) (.cons (.tail .head) ((.drop .refl))))
      ·
        refine wl_v (ov_not rfl) rfl rfl rfl ?_
        refine wl_nil ?_
        refine ce_then ?_
        refine cw_true rfl ?_
        refine cw_seq ?_
        refine cw_region ?_
        refine wl_v (ov_move rfl) rfl rfl rfl ?_
        refine wl_v (ov_move rfl) rfl rfl rfl ?_
        refine wl_v (ov_loadAgg (vs := [.int .i64 ((ys.getD j (0, 0)).1), .int .i64 ((ys.getD j (0, 0)).2)]) tI65 (holds_blk (List.Mem.head _)) rfl some_lit rfl rfl) rfl rfl rfl ?_
        refine wl_v (ov_index (k := i) (c := cv) sI23 tI65 rfl rfl (some_holds (q := i * 2) (holds_row (List.Mem.tail _ (List.Mem.head _))) (by rw [cells_length fE_len]; have hlt : i < ys.length := (by omega); omega)) (show i < xs.length from (by omega))) rfl rfl rfl ?_
        refine wl_r0 (or_store_row (vs := [.int .i64 ((ys.getD j (0, 0)).1), .int .i64 ((ys.getD j (0, 0)).2)]) (cs' := cells fE (ys.set i ((ys.getD j (0, 0)).1, (ys.getD j (0, 0)).2))) (.tail .head) tI65 rfl rfl rfl rfl (by rw [cells_length fE_len]; have hlt := (show i < ys.length from (by omega)); simp only [List.length_cons, List.length_nil]; omega) (by simp) (cells_splice fE_len (show i < ys.length from (by omega)) ((ys.getD j (0, 0)).1, (ys.getD j (0, 0)).2))) rfl rfl (kn0 ?_)
        refine wl_nil ?_
        refine ce_then ?_
        refine cw_region ?_
        refine wl_v (ov_move rfl) rfl rfl rfl ?_
        refine wl_v (ov_add (r := ((i + 1 : Nat) : Int)) rfl rfl rfl (by omega)) rfl rfl rfl ?_
        refine wl_v (ov_assign rfl) rfl rfl rfl ?_
        refine wl_nil ?_
        refine ce_block ?_
        refine ce_then ?_
        refine cw_region ?_
        refine wl_v (ov_move rfl) rfl rfl rfl ?_
        refine wl_v (ov_add (r := ((j + 1 : Nat) : Int)) rfl rfl rfl (by omega)) rfl rfl rfl ?_
        refine wl_v (ov_assign rfl) rfl rfl rfl ?_
        refine wl_nil ?_
        exact fun ac_ w_ hs_ => hR0 (j + 1) (i + 1) (ys.set i ((ys.getD j (0, 0)).1, (ys.getD j (0, 0)).2)) (by have hd := del_keep (q := fun x => !p x) (0, 0) (by omega) hyl hj2 hyt hyd (by rw [c28]; rfl); exact ⟨by omega, by omega, by rw [List.length_set]; exact hyl, hd.1, hd.2⟩) (by omega) ac_ w_ (hs_.weaken (.cons rfl (.cons rfl (.cons rfl (.cons rfl (.cons rfl (.nil)))))) (.cons (.head) ((.drop .refl))))
    ·
      refine wl_nil ?_
      refine ce_then ?_
      refine cw_false rfl ?_
      refine cw_exit ?_
      refine ce_then_exit ?_
      refine ce_then_exit ?_
      refine ce_hit ?_
      refine ce_then ?_
      refine cw_seq ?_
      refine ct_fact (some_holds (q := 0) (holds_row (List.Mem.head _)) (by rw [cells_length fE_len]; omega)) (fun hso => ?_)
      refine cw_region ?_
      refine wl_v (ov_move rfl) rfl rfl rfl ?_
      refine wl_v (ov_move rfl) rfl rfl rfl ?_
      refine wl_v (ov_slice_l (l := i) sI23 tI65 rfl rfl (by omega)) rfl rfl rfl ?_
      refine wl_r0 (or_clear (f := fE) (z0 := (0, 0)) (i := i) (k := xs.length - i) (c := cv) sI23 tI65 rfl fE_len fE_one rfl (.head) (by omega) (by omega) hso ((cells_splices fE_len _ _ _).trans (congrArg (cells fE) (show _ = ys.take i ++ List.replicate (xs.length - i) (0, 0) from (clear_tail (0, 0) hyl (by omega)))))) rfl rfl (kn0 ?_)
      refine wl_nil ?_
      refine ce_then ?_
      refine cw_seq ?_
      refine cw_region ?_
      refine wl_v (ov_move rfl) rfl rfl rfl ?_
      refine wl_v (ov_move rfl) rfl rfl rfl ?_
      refine wl_v (ov_slice_h (h := i) sI23 tI65 rfl rfl (by omega)) rfl rfl rfl ?_
      refine wl_v (ov_assign rfl) rfl rfl rfl ?_
      refine wl_nil ?_
      refine ce_then ?_
      refine cw_ret ?_
      refine ce_results (v := .slice A (i) (cv)) (res1 rfl (rv_t rfl)) (fun w' hw => ?_)
      have hfe : xs.filter (fun x => !p x) = ys.take i := (by have h2 := hyt; rw [List.take_of_length_le (show xs.length ≤ j from by omega)] at h2; exact h2.symm)
      have hfl : (xs.filter (fun x => !p x)).length = i := by rw [hfe, List.length_take]; omega
      exact ⟨by rw [hfl], ((Keep.conv (e := row 65 2 A (xs.length) (c) (cells fE (ys.take i ++ List.replicate (xs.length - i) (0, 0)))) (e' := row 65 2 A ((xs.filter (fun x => !p x)).length) (c) (cells fE (xs.filter (fun x => !p x)))) (fun w h => by have h2 := row_first (k := i) fE_len (by omega) h; rw [take_cleared (0, 0) hyl (by omega), ← hfe] at h2; rw [hfl]; exact h2) (fun _ h => h) .head .refl : Keep _ _).ss hw)⟩
end Go.Proofs.Ytkkllkkjdbpjpaa.W13
