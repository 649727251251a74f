/- Walks of functions of the given program: each returns what its Lean function says and leaves the memory that was there as it was. Conditions: those of each theorem. -/
import Derived.Test.YtkkllkkjdbpjpaaSm
import Derived.Test.YtkkllkkjdbpjpaaProg
import Derived.Test.YtkkllkkjdbpjpaaPl
import Derived.Test.YtkkllkkjdbpjpaaPo
import Derived.Test.YtkkllkkjdbpjpaaPd
import Derived.Test.YtkkllkkjdbpjpaaPe
import Derived.Test.YtkkllkkjdbpjpaaPh
import Derived.Test.YtkkllkkjdbpjpaaPm
import Derived.Test.YtkkllkkjdbpjpaaPc
import Derived.Test.YtkkllkkjdbpjpaaPs
import Derived.Test.YtkkllkkjdbpjpaaPt
import Derived.Test.YtkkllkkjdbpjpaaPu
import Derived.Test.YtkkllkkjdbpjpaaPv
import Derived.Test.YtkkllkkjdbpjpaaPw
import Derived.Test.YtkkllkkjdbpjpaaPx
import Derived.Test.YtkkllkkjdbpjpaaPy
import Derived.Test.YtkkllkkjdbpjpaaPz
import Derived.Test.YtkkllkkjdbpjpaaPr
import Derived.Test.YtkkllkkjdbpjpaaPa
import Derived.Test.YtkkllkkjdbpjpaaPn
import Derived.Test.YtkkllkkjdbpjpaaPj
import Derived.Test.YtkkllkkjdbpjpaaPq
import Derived.Test.YtkkllkkjdbpjpaaSp
import Derived.Test.YtkkllkkjdbpjpaaPp
import Derived.Test.YtkkllkkjdbpjpaaSs
import Derived.Test.YtkkllkkjdbpjpaaSr
import Derived.Test.YtkkllkkjdbpjpaaPb
import Derived.Test.YtkkllkkjdbpjpaaSe
import Derived.Test.YtkkllkkjdbpjpaaSf
import Derived.Test.YtkkllkkjdbpjpaaT
import Derived.KernelRfl
namespace Go.Proofs.Ytkkllkkjdbpjpaa.W3
open Go.Sx Go.RowKit Go.Proofs.Ytkkllkkjdbpjpaa.T
open Go.Plain
set_option linter.unusedVariables false
set_option maxRecDepth 100000 in
theorem indices_c (w : World) (n : Nat) (but : Int) (hn : n ≤ 1000) : Calls Try.prog 68 #[.int .i64 (((n : Nat) : Int)), .int .i64 (but)] w (Ret fun rv w' => ∃ A2 c2, ((idx n but).length ≤ c2) ∧ rv = .slice A2 ((idx n but).length) (c2) ∧ New w w' [row 3 1 A2 ((idx n but).length) (c2) (cells fI (idx n but))]) := by
  refine fn_enter (args := [.int .i64 (((n : Nat) : Int)), .int .i64 (but)]) Try.func68 rfl Try.ntmps68 rfl (SS.start w) ?_
  refine cw_seq ?_
  refine cw_region ?_
  refine wl_v (ov_assign rfl) rfl rfl rfl ?_
  refine wl_nil ?_
  refine ce_then ?_
  refine cw_seq ?_
  refine cw_region ?_
  refine wl_v (ov_assign rfl) rfl rfl rfl ?_
  refine wl_nil ?_
  refine ce_then ?_
  refine cw_seq ?_
  refine cw_seq ?_
  refine ct_none fI 3 1 ?_
  refine cw_region ?_
  refine wl_v (ov_move rfl) rfl rfl rfl ?_
  refine wl_v (ov_move rfl) rfl rfl rfl ?_
  refine wl_nil ?_
  refine ce_then ?_
  refine cw_block ?_
  refine cw_loop3 (fun (k : Nat) (A : Option Addr) (c : Nat) => [(1, .int .i64 (but)), (4, .slice none (0) (0)), (7, .int .i64 (((n : Nat) : Int))), (5, .slice A ((idx k but).length) (c)), (8, .int .i64 (((k : Nat) : Int)))]) (fun (k : Nat) (A : Option Addr) (c : Nat) => [row 3 1 A ((idx k but).length) (c) (cells fI (idx k but))]) (fun (k : Nat) (A : Option Addr) (c : Nat) => k ≤ n ∧ (idx k but).length ≤ c) (fun (k : Nat) (A : Option Addr) (c : Nat) => n - k) 0 none 0 ⟨by omega, Nat.le_refl _⟩ (.cons rfl (.cons rfl (.cons rfl (.cons rfl (.cons (congrArg (fun z => some (Value.int .i64 z)) (show 0 = ((0 : Nat) : Int) by first | omega | rfl | (simp; done))) (.nil)))))) (.cons (.head) (.nil)) ?_
  intro R0 k A c hk hR0
  obtain ⟨hk1, hk2⟩ := hk
  have hl := idx_len k but
  refine cw_seq ?_
  refine cw_region ?_
  refine wl_if (ov_lss rfl rfl) rfl rfl rfl (fun c9 => ?_) (fun c9 => ?_)
  ·
    refine wl_nil ?_
    refine ce_then ?_
    refine cw_seq ?_
    refine cw_true rfl ?_
    refine cw_skip ?_
    refine ce_then ?_
    refine cw_seq ?_
    refine cw_block ?_
    refine cw_seq ?_
    refine cw_region ?_
    refine wl_v (ov_move rfl) rfl rfl rfl ?_
    refine wl_v (ov_assign rfl) rfl rfl rfl ?_
    refine wl_nil ?_
    refine ce_then ?_
    refine cw_seq ?_
    refine cw_region ?_
    refine wl_v (ov_move rfl) rfl rfl rfl ?_
    refine wl_v (ov_move rfl) rfl rfl rfl ?_
    refine wl_if (ov_neq rfl rfl) rfl rfl rfl (fun c13 => ?_) (fun c13 => ?_)
    ·
      refine wl_nil ?_
      refine ce_then ?_
      refine cw_true rfl ?_
      refine cw_region ?_
      refine wl_v (ov_move rfl) rfl rfl rfl ?_
      refine wl_v (ov_move rfl) rfl rfl rfl ?_
      refine wl_r (or_buildSlice (e := 3) (size := 1) (is := [0]) (vs := [.int .i64 (((k : Nat) : Int))]) (cs := cells fI ([((k : Nat) : Int)])) rfl rfl rfl (by decide) (fun _ => by kernel_rfl)) rfl rfl (kt1 rfl (fun g16 => ?_))
      refine wl_r (or_append (c2 := 1) sI38 tI3 rfl (by decide) rfl rfl (.tail .head) (holds_row (List.Mem.head _)) (by rw [cells_length fI_len]; try simp) (one_cells fI_one _) cells_append (by omega) (by omega)) rfl rfl (kt2p rfl (fun A17 c17 h17 => ?_))
      refine wl_v (ov_assign rfl) rfl rfl rfl ?_
      refine wl_nil ?_
      refine ce_block ?_
      refine ce_then ?_
      refine cw_region ?_
      refine wl_v (ov_add (r := ((k + 1 : Nat) : Int)) rfl rfl rfl (by omega)) rfl rfl rfl ?_
      refine wl_v (ov_move rfl) rfl rfl rfl ?_
      refine wl_nil ?_
      exact fun ac_ w_ hs_ => hR0 (k + 1) A17 c17 ⟨by omega, by rw [idx_succ_ne c13]; simpa using h17⟩ (by omega) ac_ w_ (hs_.weaken (.cons rfl (.cons rfl (.cons rfl (.cons (congrArg (fun z => some (Value.slice A17 z c17)) (show (((idx k but).length) + 1) = ((idx (k + 1) but).length) from by rw [idx_succ_ne c13]; simp)) (.cons rfl (.nil)))))) (.consE (show row 3 1 A17 (((idx k but).length) + 1) (c17) (cells fI ((idx k but) ++ ([((k : Nat) : Int)]))) = row 3 1 A17 ((idx (k + 1) but).length) (c17) (cells fI (idx (k + 1) but)) by rw [idx_succ_ne c13]; simp) (.head) (.nil)))
    ·
      refine wl_nil ?_
      refine ce_then ?_
      refine cw_false rfl ?_
      refine cw_skip ?_
      refine ce_block ?_
      refine ce_then ?_
      refine cw_region ?_
      refine wl_v (ov_add (r := ((k + 1 : Nat) : Int)) rfl rfl rfl (by omega)) rfl rfl rfl ?_
      refine wl_v (ov_move rfl) rfl rfl rfl ?_
      refine wl_nil ?_
      exact fun ac_ w_ hs_ => hR0 (k + 1) A c ⟨by omega, by rw [idx_succ_eq (by omega)]; exact hk2⟩ (by omega) ac_ w_ (hs_.weaken (.cons rfl (.cons rfl (.cons rfl (.cons (congrArg (fun z => some (Value.slice A z c)) (show ((idx k but).length) = ((idx (k + 1) but).length) from by rw [idx_succ_eq (by omega)])) (.cons rfl (.nil)))))) (.consE (show row 3 1 A ((idx k but).length) (c) (cells fI (idx k but)) = row 3 1 A ((idx (k + 1) but).length) (c) (cells fI (idx (k + 1) but)) by rw [idx_succ_eq (by omega)]) (.head) (.nil)))
  ·
    refine wl_nil ?_
    refine ce_then ?_
    refine cw_seq ?_
    refine cw_false rfl ?_
    refine cw_exit ?_
    refine ce_then_exit ?_
    refine ce_then_exit ?_
    refine ce_hit ?_
    refine ce_then ?_
    refine cw_seq ?_
    refine cw_region ?_
    refine wl_v (ov_move rfl) rfl rfl rfl ?_
    refine wl_v (ov_assign rfl) rfl rfl rfl ?_
    refine wl_nil ?_
    refine ce_then ?_
    refine cw_ret ?_
    refine ce_results (v := .slice A ((idx k but).length) (c)) (res1 rfl (rv_t rfl)) (fun w' hw => ?_)
    exact ⟨A, c, (by rw [show n = k from by omega]; exact hk2), (by rw [show n = k from by omega]), ((.consE (show row 3 1 A ((idx k but).length) (c) (cells fI (idx k but)) = row 3 1 A ((idx n but).length) (c) (cells fI (idx n but)) by rw [show n = k from by omega]) (.head) (.nil) : Keep _ _).ss hw).to_new⟩
end Go.Proofs.Ytkkllkkjdbpjpaa.W3
