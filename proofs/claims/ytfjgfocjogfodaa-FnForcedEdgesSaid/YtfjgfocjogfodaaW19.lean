/- Walks of functions of the given program: each returns what its Lean function says and leaves the memory that was there as it was. Conditions: those of each theorem. -/
import Derived.Test.YtfjgfocjogfodaaSm
import Derived.Test.YtfjgfocjogfodaaProg
import Derived.Test.YtfjgfocjogfodaaPl
import Derived.Test.YtfjgfocjogfodaaPo
import Derived.Test.YtfjgfocjogfodaaPd
import Derived.Test.YtfjgfocjogfodaaPe
import Derived.Test.YtfjgfocjogfodaaPh
import Derived.Test.YtfjgfocjogfodaaPm
import Derived.Test.YtfjgfocjogfodaaPc
import Derived.Test.YtfjgfocjogfodaaPs
import Derived.Test.YtfjgfocjogfodaaPt
import Derived.Test.YtfjgfocjogfodaaPu
import Derived.Test.YtfjgfocjogfodaaPv
import Derived.Test.YtfjgfocjogfodaaPw
import Derived.Test.YtfjgfocjogfodaaT
import Derived.KernelRfl
namespace Go.Proofs.Ytfjgfocjogfodaa.W19
open Go.Sx Go.RowKit Go.Proofs.Ytfjgfocjogfodaa.T
open Go.Plain
set_option linter.unusedVariables false
set_option maxRecDepth 100000 in
theorem indexFuncG_c (w : World) (A : Option Addr) (n : Nat) (c : Nat) (gs : List (Int × Option Addr × Nat × Nat)) (Fc : FuncId) (cs : List Value) (p : Nat → Bool) (hA : At w A (cells fG gs)) (eA : gs.length = n) (lA : n ≤ c) (hs : gs.length ≤ 4000000) (hen : Enters Try.prog Fc) (hf : ∀ i, i < gs.length → ∀ w', Below w.heap.size w w' → Calls Try.prog Fc ([] ++ [Value.agg #[.int .i64 (gs.getD i (0, none, 0, 0)).1, .slice (gs.getD i (0, none, 0, 0)).2.1 (gs.getD i (0, none, 0, 0)).2.2.1 (gs.getD i (0, none, 0, 0)).2.2.2]] ++ cs).toArray w' (Ret fun v w'' => v = .bool (p i) ∧ New w' w'' [])) : Calls Try.prog 110 #[.slice A (n) (c), .func (.func Fc) #[] cs.toArray] w (Ret fun rv w' => ∃ v, ((v = -1 ∧ ∀ i, i < gs.length → p i = false) ∨ (0 ≤ v ∧ ∃ i, i < gs.length ∧ p i = true)) ∧ rv = .int .i64 (v) ∧ New w w' []) := by
  have oA := hA.atB
  subst eA
  refine fn_enter (args := [.slice A (gs.length) (c), .func (.func Fc) #[] cs.toArray]) Try.func110 rfl Try.ntmps110 rfl (SS.start w) ?_
  refine cw_seq ?_
  refine cw_region ?_
  refine wl_v (ov_assign rfl) rfl rfl rfl ?_
  refine wl_nil ?_
  refine ce_then ?_
  refine cw_seq ?_
  refine cw_seq ?_
  refine cw_region ?_
  refine wl_v (ov_move rfl) rfl rfl rfl ?_
  refine wl_v (ov_len (sliceI_spec sI38) rfl) rfl rfl rfl ?_
  refine wl_v (ov_move rfl) rfl rfl rfl ?_
  refine wl_nil ?_
  refine ce_then ?_
  refine cw_block ?_
  refine cw_loop1 (fun (k : Nat) => [(0, .slice A (gs.length) (c)), (1, .func (.func Fc) #[] cs.toArray), (7, .int .i64 (((gs.length : Nat) : Int))), (8, .int .i64 (((k : Nat) : Int)))]) (fun (k : Nat) => []) (fun (k : Nat) => k ≤ gs.length ∧ ∀ i, i < k → p i = false) (fun (k : Nat) => gs.length - k) 0 ⟨by omega, fun i hi => absurd hi (Nat.not_lt_zero _)⟩ (.cons rfl (.cons rfl (.cons rfl (.cons (congrArg (fun z => some (Value.int .i64 z)) (show 0 = ((0 : Nat) : Int) by first | omega | rfl | (simp; done))) (.nil))))) (.nil) ?_
  intro R0 k hk hR0
  obtain ⟨hk1, hk2⟩ := hk
  refine cw_seq ?_
  refine cw_region ?_
  refine wl_if (ov_lss rfl rfl) rfl rfl rfl (fun c9 => ?_) (fun c9 => ?_)
  ·
    refine wl_nil ?_
    refine ce_then ?_
    refine cw_seq ?_
    refine cw_true rfl ?_
    refine cw_skip ?_
    refine ce_then ?_
    refine cw_seq ?_
    refine cw_block ?_
    refine cw_seq ?_
    refine cw_region ?_
    refine wl_v (ov_move rfl) rfl rfl rfl ?_
    refine wl_v (ov_assign rfl) rfl rfl rfl ?_
    refine wl_nil ?_
    refine ce_then ?_
    refine cw_seq ?_
    refine cw_region ?_
    refine wl_v (ov_move rfl) rfl rfl rfl ?_
    refine wl_v (ov_move rfl) rfl rfl rfl ?_
    refine wl_v (ov_move rfl) rfl rfl rfl ?_
    refine wl_v (ov_index (k := k) (c := c) sI38 tI25 rfl rfl (some_holds (q := k * 2) (holds_old oA) (by rw [cells_length fG_len]; have hlt : k < gs.length := (by omega); omega)) (show k < gs.length from (by omega))) rfl rfl rfl ?_
    refine wl_v (ov_loadAgg (vs := [.int .i64 ((gs.getD k (0, none, 0, 0)).1), .slice ((gs.getD k (0, none, 0, 0)).2.1) ((gs.getD k (0, none, 0, 0)).2.2.1) ((gs.getD k (0, none, 0, 0)).2.2.2)]) tI25 (holds_old oA) rfl (some_holds (q := k * 2) (holds_old oA) (by rw [cells_length fG_len]; have hlt : k < gs.length := (by omega); omega)) (cells_elem fG_len (0, none, 0, 0) (show k < gs.length from (by omega))) rfl) rfl rfl rfl ?_
    refine wl_r (or_call (fv := []) (vs := [.agg #[.int .i64 ((gs.getD k (0, none, 0, 0)).1), .slice ((gs.getD k (0, none, 0, 0)).2.1) ((gs.getD k (0, none, 0, 0)).2.2.1) ((gs.getD k (0, none, 0, 0)).2.2.2)]]) (cs := cs) hen rfl rfl (call_v (fun w hw => hf k (by omega) w hw.below))) rfl rfl (kt_ifb rfl (fun c16 => ?_) (fun c16 => ?_))
    ·
      refine wl_nil ?_
      refine ce_then ?_
      refine cw_true rfl ?_
      refine cw_seq ?_
      refine cw_region ?_
      refine wl_v (ov_move rfl) rfl rfl rfl ?_
      refine wl_v (ov_assign rfl) rfl rfl rfl ?_
      refine wl_nil ?_
      refine ce_then ?_
      refine cw_ret ?_
      refine ce_block_ret ?_
      refine ce_then_ret ?_
      refine ce_then_ret ?_
      refine ce_block_ret ?_
      refine ce_then_ret ?_
      refine ce_results (v := .int .i64 (((k : Nat) : Int))) (res1 rfl (rv_t rfl)) (fun w' hw => ?_)
      exact ⟨((k : Nat) : Int), .inr ⟨by omega, k, by omega, c16⟩, rfl, ((.nil : Keep _ _).ss hw).to_new⟩
    ·
      refine wl_nil ?_
      refine ce_then ?_
      refine cw_false rfl ?_
      refine cw_skip ?_
      refine ce_block ?_
      refine ce_then ?_
      refine cw_region ?_
      refine wl_v (ov_add (r := ((k + 1 : Nat) : Int)) rfl rfl rfl (by omega)) rfl rfl rfl ?_
      refine wl_v (ov_move rfl) rfl rfl rfl ?_
      refine wl_nil ?_
      exact fun ac_ w_ hs_ => hR0 (k + 1) ⟨by omega, fun i hi => by rcases Nat.lt_succ_iff_lt_or_eq.1 hi with h | rfl; exact hk2 i h; exact c16⟩ (by omega) ac_ w_ (hs_.weaken (.cons rfl (.cons rfl (.cons rfl (.cons rfl (.nil))))) (.nil))
  ·
    refine wl_nil ?_
    refine ce_then ?_
    refine cw_seq ?_
    refine cw_false rfl ?_
    refine cw_exit ?_
    refine ce_then_exit ?_
    refine ce_then_exit ?_
    refine ce_hit ?_
    refine ce_then ?_
    refine cw_seq ?_
    refine cw_region ?_
    refine wl_v (ov_assign rfl) rfl rfl rfl ?_
    refine wl_nil ?_
    refine ce_then ?_
    refine cw_ret ?_
    refine ce_results (v := .int .i64 (-1)) (res1 rfl (rv_t rfl)) (fun w' hw => ?_)
    exact ⟨-1, .inl ⟨rfl, fun i hi => hk2 i (by omega)⟩, rfl, ((.nil : Keep _ _).ss hw).to_new⟩
set_option maxRecDepth 100000 in
theorem containsFuncG_c (w : World) (A : Option Addr) (n : Nat) (c : Nat) (gs : List (Int × Option Addr × Nat × Nat)) (Fc : FuncId) (cs : List Value) (p : Nat → Bool) (hA : At w A (cells fG gs)) (eA : gs.length = n) (lA : n ≤ c) (hs : gs.length ≤ 4000000) (hen : Enters Try.prog Fc) (hf : ∀ i, i < gs.length → ∀ w', Below w.heap.size w w' → Calls Try.prog Fc ([] ++ [Value.agg #[.int .i64 (gs.getD i (0, none, 0, 0)).1, .slice (gs.getD i (0, none, 0, 0)).2.1 (gs.getD i (0, none, 0, 0)).2.2.1 (gs.getD i (0, none, 0, 0)).2.2.2]] ++ cs).toArray w' (Ret fun v w'' => v = .bool (p i) ∧ New w' w'' [])) : Calls Try.prog 57 #[.slice A (n) (c), .func (.func Fc) #[] cs.toArray] w (Ret fun rv w' => rv = .bool (decide (∃ i, i < gs.length ∧ p i = true)) ∧ New w w' []) := by
  have oA := hA.atB
  subst eA
  refine fn_enter (args := [.slice A (gs.length) (c), .func (.func Fc) #[] cs.toArray]) Try.func57 rfl Try.ntmps57 rfl (SS.start w) ?_
  refine cw_seq ?_
  refine cw_region ?_
  refine wl_v (ov_assign rfl) rfl rfl rfl ?_
  refine wl_nil ?_
  refine ce_then ?_
  refine cw_seq ?_
  refine cw_region ?_
  refine wl_v (ov_move rfl) rfl rfl rfl ?_
  refine wl_v (ov_move rfl) rfl rfl rfl ?_
  refine wl_r (or_call (fv := []) (vs := [.slice A (gs.length) (c), .func (.func Fc) #[] cs.toArray]) (cs := []) en110 rfl rfl (call_x1 (fun w hw => indexFuncG_c w A gs.length c gs Fc cs p ((holds_old oA) w hw) rfl lA (by first | assumption | omega | (simp; omega)) (by first | assumption | omega | (simp; omega)) (fun i hi w' hb => hf i hi w' (hw.below.trans (hb.mono hw.le)))))) rfl rfl (kt1p rfl (fun v_7 h_7 => ?_))
  refine wl_if (ov_geq rfl rfl) rfl rfl rfl (fun c8 => ?_) (fun c8 => ?_)
  ·
    refine wl_v (ov_assign rfl) rfl rfl rfl ?_
    refine wl_nil ?_
    refine ce_then ?_
    refine cw_ret ?_
    refine ce_results (v := .bool true) (res1 rfl (rv_t rfl)) (fun w' hw => ?_)
    exact ⟨(bt (h_7.elim (fun h => by have := h.1; omega) (fun h => h.2))), (Keep.nil.ss hw).to_new⟩
  ·
    refine wl_v (ov_assign rfl) rfl rfl rfl ?_
    refine wl_nil ?_
    refine ce_then ?_
    refine cw_ret ?_
    refine ce_results (v := .bool false) (res1 rfl (rv_t rfl)) (fun w' hw => ?_)
    exact ⟨(bf (fun ⟨i, hi, hp⟩ => h_7.elim (fun h => by rw [h.2 i hi] at hp; cases hp) (fun h => c8 (by have := h.1; omega)))), (Keep.nil.ss hw).to_new⟩
end Go.Proofs.Ytfjgfocjogfodaa.W19
