/- Walks of functions of the given program: each returns what its Lean function says and leaves the memory that was there as it was. Conditions: those of each theorem. -/
import Derived.Test.YtlgkooeflgmcaabSz
import Derived.Test.YtlgkooeflgmcaabProg
import Derived.Test.YtlgkooeflgmcaabPl
import Derived.Test.YtlgkooeflgmcaabPo
import Derived.Test.YtlgkooeflgmcaabPd
import Derived.Test.YtlgkooeflgmcaabPe
import Derived.Test.YtlgkooeflgmcaabPh
import Derived.Test.YtlgkooeflgmcaabPm
import Derived.Test.YtlgkooeflgmcaabPc
import Derived.Test.YtlgkooeflgmcaabPs
import Derived.Test.YtlgkooeflgmcaabT
import Derived.Test.YtlgkooeflgmcaabW1
import Derived.Test.YtlgkooeflgmcaabW2
import Derived.Test.YtlgkooeflgmcaabW3
import Derived.Test.YtlgkooeflgmcaabW5
import Derived.Test.YtlgkooeflgmcaabW6
import Derived.Test.YtlgkooeflgmcaabW7
import Derived.Test.YtlgkooeflgmcaabW8
import Derived.Test.YtlgkooeflgmcaabW9
import Derived.Test.YtlgkooeflgmcaabW10
import Derived.Test.YtlgkooeflgmcaabW11
import Derived.Test.YtlgkooeflgmcaabW12
import Derived.Test.YtlgkooeflgmcaabW13
import Derived.Test.YtlgkooeflgmcaabW14
import Derived.Test.YtlgkooeflgmcaabW15
import Derived.Test.YtlgkooeflgmcaabW16
import Derived.Test.YtlgkooeflgmcaabW17
import Derived.Test.YtlgkooeflgmcaabW18
import Derived.KernelRfl
namespace Go.Proofs.Ytlgkooeflgmcaab.W19
open Go.Sx Go.RowKit Go.Proofs.Ytlgkooeflgmcaab.T Go.Proofs.Ytlgkooeflgmcaab.W1 Go.Proofs.Ytlgkooeflgmcaab.W2 Go.Proofs.Ytlgkooeflgmcaab.W3 Go.Proofs.Ytlgkooeflgmcaab.W5 Go.Proofs.Ytlgkooeflgmcaab.W6 Go.Proofs.Ytlgkooeflgmcaab.W7 Go.Proofs.Ytlgkooeflgmcaab.W8 Go.Proofs.Ytlgkooeflgmcaab.W9 Go.Proofs.Ytlgkooeflgmcaab.W10 Go.Proofs.Ytlgkooeflgmcaab.W11 Go.Proofs.Ytlgkooeflgmcaab.W12 Go.Proofs.Ytlgkooeflgmcaab.W13 Go.Proofs.Ytlgkooeflgmcaab.W14 Go.Proofs.Ytlgkooeflgmcaab.W15 Go.Proofs.Ytlgkooeflgmcaab.W16 Go.Proofs.Ytlgkooeflgmcaab.W17 Go.Proofs.Ytlgkooeflgmcaab.W18
open Go.Plain
set_option linter.unusedVariables false
set_option maxRecDepth 100000 in
theorem indexFuncG_c (w : World) (A : Option Addr) (n : Nat) (c : Nat) (gs : List (Int × Option Addr × Nat × Nat)) (Fc : FuncId) (cs : List Value) (p : Nat → Bool) (hA : At w A (cells fG gs)) (eA : gs.length = n) (lA : n ≤ c) (hs : gs.length ≤ 4000000) (hen : Enters Try.prog Fc) (hf : ∀ i, i < gs.length → ∀ w', Below w.heap.size w w' → Calls Try.prog Fc ([] ++ [Value.agg #[.int .i64 (gs.getD i (0, none, 0, 0)).1, .slice (gs.getD i (0, none, 0, 0)).2.1 (gs.getD i (0, none, 0, 0)).2.2.1 (gs.getD i (0, none, 0, 0)).2.2.2]] ++ cs).toArray w' (Ret fun v w'' => v = .bool (p i) ∧ New w' w'' [])) : Calls Try.prog 93 #[.slice A (n) (c), .func (.func Fc) #[] cs.toArray] w (Ret fun rv w' => ∃ v, ((v = -1 ∧ ∀ i, i < gs.length → p i = false) ∨ (0 ≤ v ∧ ∃ i, i < gs.length ∧ p i = true)) ∧ rv = .int .i64 (v) ∧ New w w' []) := by
  have oA := hA.atB
  subst eA
  refine fn_enter (args := [.slice A (gs.length) (c), .func (.func Fc) #[] cs.toArray]) Try.func93 rfl Try.ntmps93 rfl (SS.start w) ?_
  refine cw_seq ?_
  refine cw_region ?_
  refine wl_v (ov_assign rfl) rfl rfl rfl ?_
  refine wl_nil ?_
  refine ce_then ?_
  refine cw_seq ?_
  refine cw_seq ?_
  refine cw_region ?_
  refine wl_v (ov_move rfl) rfl rfl rfl ?_
  refine wl_v (ov_len (sliceI_spec sI55) rfl) rfl rfl rfl ?_
  refine wl_v (ov_move rfl) rfl rfl rfl ?_
  refine wl_nil ?_
  refine ce_then ?_
  refine cw_block ?_
  refine cw_loop1 (fun (k : Nat) => [(0, .slice A (gs.length) (c)), (1, .func (.func Fc) #[] cs.toArray), (7, .int .i64 (((gs.length : Nat) : Int))), (8, .int .i64 (((k : Nat) : Int)))]) (fun (k : Nat) => []) (fun (k : Nat) => k ≤ gs.length ∧ ∀ i, i < k → p i = false) (fun (k : Nat) => gs.length - k) 0 ⟨by omega, fun i hi => absurd hi (Nat.not_lt_zero _)⟩ (.cons rfl (.cons rfl (.cons rfl (.cons (congrArg (fun z => some (Value.int .i64 z)) (show 0 = ((0 : Nat) : Int) by first | omega | rfl | (simp; done))) (.nil))))) (.nil) ?_
  intro R0 k hk hR0
  obtain ⟨hk1, hk2⟩ := hk
  refine cw_seq ?_
  refine cw_region ?_
  refine wl_if (ov_lss rfl rfl) rfl rfl rfl (fun c9 => ?_) (fun c9 => ?_)
  ·
    refine wl_nil ?_
    refine ce_then ?_
    refine cw_seq ?_
    refine cw_true rfl ?_
    refine cw_skip ?_
    refine ce_then ?_
    refine cw_seq ?_
    refine cw_block ?_
    refine cw_seq ?_
    refine cw_region ?_
    refine wl_v (ov_move rfl) rfl rfl rfl ?_
    refine wl_v (ov_assign rfl) rfl rfl rfl ?_
    refine wl_nil ?_
    refine ce_then ?_
    refine cw_seq ?_
    refine cw_region ?_
    refine wl_v (ov_move rfl) rfl rfl rfl ?_
    refine wl_v (ov_move rfl) rfl rfl rfl ?_
    refine wl_v (ov_move rfl) rfl rfl rfl ?_
    refine wl_v (ov_index (k := k) (c := c) sI55 tI30 rfl rfl (some_holds (q := k * 2) (holds_old oA) (by rw [cells_length fG_len]; have hlt : k < gs.length := (by omega); omega)) (show k < gs.length from (by omega))) rfl rfl rfl ?_
    refine wl_v (ov_loadAgg (vs := [.int .i64 ((gs.getD k (0, none, 0, 0)).1), .slice ((gs.getD k (0, none, 0, 0)).2.1) ((gs.getD k (0, none, 0, 0)).2.2.1) ((gs.getD k (0, none, 0, 0)).2.2.2)]) tI30 (holds_old oA) rfl (some_holds (q := k * 2) (holds_old oA) (by rw [cells_length fG_len]; have hlt : k < gs.length := (by omega); omega)) (cells_elem fG_len (0, none, 0, 0) (show k < gs.length from (by omega))) rfl) rfl rfl rfl ?_
    refine wl_r (or_call (fv := []) (vs := [.agg #[.int .i64 ((gs.getD k (0, none, 0, 0)).1), .slice ((gs.getD k (0, none, 0, 0)).2.1) ((gs.getD k (0, none, 0, 0)).2.2.1) ((gs.getD k (0, none, 0, 0)).2.2.2)]]) (cs := cs) hen rfl rfl (call_v (fun w hw => hf k (by omega) w hw.below))) rfl rfl (kt_ifb rfl (fun c16 => ?_) (fun c16 => ?_))
    ·
      refine wl_nil ?_
      refine ce_then ?_
      refine cw_true rfl ?_
      refine cw_seq ?_
      refine cw_region ?_
      refine wl_v (ov_move rfl) rfl rfl rfl ?_
      refine wl_v (ov_assign rfl) rfl rfl rfl ?_
      refine wl_nil ?_
      refine ce_then ?_
      refine cw_ret ?_
      refine ce_block_ret ?_
      refine ce_then_ret ?_
      refine ce_then_ret ?_
      refine ce_block_ret ?_
      refine ce_then_ret ?_
      refine ce_results (v := .int .i64 (((k : Nat) : Int))) (res1 rfl (rv_t rfl)) (fun w' hw => ?_)
      exact ⟨((k : Nat) : Int), .inr ⟨by omega, k, by omega, c16⟩, rfl, ((.nil : Keep _ _).ss hw).to_new⟩
    ·
      refine wl_nil ?_
      refine ce_then ?_
      refine cw_false rfl ?_
      refine cw_skip ?_
      refine ce_block ?_
      refine ce_then ?_
      refine cw_region ?_
      refine wl_v (ov_add (r := ((k + 1 : Nat) : Int)) rfl rfl rfl (by omega)) rfl rfl rfl ?_
      refine wl_v (ov_move rfl) rfl rfl rfl ?_
      refine wl_nil ?_
      exact fun ac_ w_ hs_ => hR0 (k + 1) ⟨by omega, fun i hi => by rcases Nat.lt_succ_iff_lt_or_eq.1 hi with h | rfl; exact hk2 i h; exact c16⟩ (by omega) ac_ w_ (hs_.weaken (.cons rfl (.cons rfl (.cons rfl (.cons rfl (.nil))))) (.nil))
  ·
    refine wl_nil ?_
    refine ce_then ?_
    refine cw_seq ?_
    refine cw_false rfl ?_
    refine cw_exit ?_
    refine ce_then_exit ?_
    refine ce_then_exit ?_
    refine ce_hit ?_
    refine ce_then ?_
    refine cw_seq ?_
    refine cw_region ?_
    refine wl_v (ov_assign rfl) rfl rfl rfl ?_
    refine wl_nil ?_
    refine ce_then ?_
    refine cw_ret ?_
    refine ce_results (v := .int .i64 (-1)) (res1 rfl (rv_t rfl)) (fun w' hw => ?_)
    exact ⟨-1, .inl ⟨rfl, fun i hi => hk2 i (by omega)⟩, rfl, ((.nil : Keep _ _).ss hw).to_new⟩
set_option maxRecDepth 100000 in
theorem containsFuncG_c (w : World) (A : Option Addr) (n : Nat) (c : Nat) (gs : List (Int × Option Addr × Nat × Nat)) (Fc : FuncId) (cs : List Value) (p : Nat → Bool) (hA : At w A (cells fG gs)) (eA : gs.length = n) (lA : n ≤ c) (hs : gs.length ≤ 4000000) (hen : Enters Try.prog Fc) (hf : ∀ i, i < gs.length → ∀ w', Below w.heap.size w w' → Calls Try.prog Fc ([] ++ [Value.agg #[.int .i64 (gs.getD i (0, none, 0, 0)).1, .slice (gs.getD i (0, none, 0, 0)).2.1 (gs.getD i (0, none, 0, 0)).2.2.1 (gs.getD i (0, none, 0, 0)).2.2.2]] ++ cs).toArray w' (Ret fun v w'' => v = .bool (p i) ∧ New w' w'' [])) : Calls Try.prog 53 #[.slice A (n) (c), .func (.func Fc) #[] cs.toArray] w (Ret fun rv w' => rv = .bool (decide (∃ i, i < gs.length ∧ p i = true)) ∧ New w w' []) := by
  have oA := hA.atB
  subst eA
  refine fn_enter (args := [.slice A (gs.length) (c), .func (.func Fc) #[] cs.toArray]) Try.func53 rfl Try.ntmps53 rfl (SS.start w) ?_
  refine cw_seq ?_
  refine cw_region ?_
  refine wl_v (ov_assign rfl) rfl rfl rfl ?_
  refine wl_nil ?_
  refine ce_then ?_
  refine cw_seq ?_
  refine cw_region ?_
  refine wl_v (ov_move rfl) rfl rfl rfl ?_
  refine wl_v (ov_move rfl) rfl rfl rfl ?_
  refine wl_r (or_call (fv := []) (vs := [.slice A (gs.length) (c), .func (.func Fc) #[] cs.toArray]) (cs := []) en93 rfl rfl (call_x1 (fun w hw => indexFuncG_c w A gs.length c gs Fc cs p ((holds_old oA) w hw) rfl lA (by first | assumption | omega | (simp; omega)) (by first | assumption | omega | (simp; omega)) (fun i hi w' hb => hf i hi w' (hw.below.trans (hb.mono hw.le)))))) rfl rfl (kt1p rfl (fun v_7 h_7 => ?_))
  refine wl_if (ov_geq rfl rfl) rfl rfl rfl (fun c8 => ?_) (fun c8 => ?_)
  ·
    refine wl_v (ov_assign rfl) rfl rfl rfl ?_
    refine wl_nil ?_
    refine ce_then ?_
    refine cw_ret ?_
    refine ce_results (v := .bool true) (res1 rfl (rv_t rfl)) (fun w' hw => ?_)
    exact ⟨(bt (h_7.elim (fun h => by have := h.1; omega) (fun h => h.2))), (Keep.nil.ss hw).to_new⟩
  ·
    refine wl_v (ov_assign rfl) rfl rfl rfl ?_
    refine wl_nil ?_
    refine ce_then ?_
    refine cw_ret ?_
    refine ce_results (v := .bool false) (res1 rfl (rv_t rfl)) (fun w' hw => ?_)
    exact ⟨(bf (fun ⟨i, hi, hp⟩ => h_7.elim (fun h => by rw [h.2 i hi] at hp; cases hp) (fun h => c8 (by have := h.1; omega)))), (Keep.nil.ss hw).to_new⟩
set_option maxRecDepth 100000 in
theorem uni1_c (w : World) (m : Nat) (A : Option Addr) (n : Nat) (c : Nat) (es : List (Int × Int)) (g1 : Nat) (Ao : Option Addr) (no : Nat) (co : Nat) (hs : List Hd) (fs : List Ed) (hA : At w A (cells fE es)) (eA : es.length = n) (lA : n ≤ c) (hg1 : At w (some ⟨g1, 0, none⟩) [.slice Ao (no) (co)]) (hAo : At w Ao (cells fG (gsOf m hs))) (hz : At w (hs.getD 0 (none, 0, 0)).1 (cells fE fs)) (hz0 : 0 < hs.length) (hez : fs.length = (hs.getD 0 (none, 0, 0)).2.1) (hcz : fs.length ≤ (hs.getD 0 (none, 0, 0)).2.2) (hg : Gr m es) (hf : Gr m fs) (hm : m ≤ 6) (hno : no = hs.length) : Calls Try.prog 54 #[.agg #[.int .i64 (((m : Nat) : Int)), .slice A (n) (c)], elp (some ⟨g1, 0, none⟩) (0)] w (Ret fun rv w' => rv = .bool (!(mapI fs es m m []).isSome) ∧ New w w' []) := by
  have oA := hA.atB
  subst eA
  have og1 := hg1.atB
  have oAo := hAo.atB
  have oz := hz.atB
  have hgl0 := gsOf_length m hs
  refine fn_enter (args := [.agg #[.int .i64 (((m : Nat) : Int)), .slice A (es.length) (c)], elp (some ⟨g1, 0, none⟩) (0)]) Try.func54 rfl Try.ntmps54 rfl (SS.start w) ?_
  refine cw_seq ?_
  refine cw_region ?_
  refine wl_r (or_box rfl rfl) rfl rfl (kt1 rfl (fun g2 => ?_))
  refine wl_v (ov_assign rfl) rfl rfl rfl ?_
  refine wl_nil ?_
  refine ce_then ?_
  refine cw_seq ?_
  refine cw_draw mixO [] (.cons (.head) (.nil)) rfl ?_
  refine wg_take (i := 0) rfl (ov_load tI55 (holds_old og1) rfl rfl) rfl rfl rfl (by kernel_rfl) (by kernel_rfl) (by kernel_rfl) (by kernel_rfl) ?_
  refine wg_take (i := 1) rfl (ov_index (k := 0) (c := co) sI55 tI30 rfl rfl (some_holds (q := 0 * 2) (holds_old oAo) (by rw [cells_length fG_len]; have hlt : 0 < (gsOf m hs).length := (by omega); omega)) (show 0 < no from (by omega))) rfl rfl rfl (by kernel_rfl) (by kernel_rfl) (by kernel_rfl) (by kernel_rfl) ?_
  refine wg_take (i := 2) rfl (ov_loadAgg (vs := [.int .i64 (((m : Nat) : Int)), .slice ((hs.getD 0 (none, 0, 0)).1) (fs.length) ((hs.getD 0 (none, 0, 0)).2.2)]) tI30 (holds_old oAo) rfl (some_holds (q := 0 * 2) (holds_old oAo) (by rw [cells_length fG_len]; have hlt : 0 < (gsOf m hs).length := (by omega); omega)) (elem_fG0 hz0 hez) rfl) rfl rfl rfl (by kernel_rfl) (by kernel_rfl) (by kernel_rfl) (by kernel_rfl) ?_
  refine wg_take (i := 3) rfl (ov_loadAgg (vs := [.int .i64 (((m : Nat) : Int)), .slice A (es.length) (c)]) tI30 (holds_blk (List.Mem.head _)) rfl some_lit rfl rfl) rfl rfl rfl (by kernel_rfl) (by kernel_rfl) (by kernel_rfl) (by kernel_rfl) ?_
  refine wg_one (i := 4) (by kernel_rfl) ?_
  refine go_r rfl rfl rfl rfl (or_call (fv := []) (vs := [.agg #[.int .i64 (((m : Nat) : Int)), .slice ((hs.getD 0 (none, 0, 0)).1) (fs.length) ((hs.getD 0 (none, 0, 0)).2.2)], .agg #[.int .i64 (((m : Nat) : Int)), .slice A (es.length) (c)]]) (cs := []) en42 rfl rfl (call_x3 (fun w hw => mapped_c w m ((hs.getD 0 (none, 0, 0)).1) fs.length ((hs.getD 0 (none, 0, 0)).2.2) fs m A es.length c es ((holds_old oz) w hw) rfl hcz ((holds_old oA) w hw) rfl lA rfl hf hg (by first | assumption | omega | (simp; omega))))) (kt3p rfl (fun A3_11 c3_11 c4_11 h_11 => ?_))
  refine gk (.cons (.tail .head) (.nil)) ?_
  refine wg_takep (i := 5) rfl (ov_move rfl) rfl rfl rfl (by kernel_rfl) (by kernel_rfl) (by kernel_rfl) rfl ?_
  refine wg_takep (i := 6) rfl (ov_extract rfl rfl) rfl rfl rfl (by kernel_rfl) (by kernel_rfl) (by kernel_rfl) rfl ?_
  refine wg_takep (i := 7) rfl (ov_extract rfl rfl) rfl rfl rfl (by kernel_rfl) (by kernel_rfl) (by kernel_rfl) rfl ?_
  refine wg_takep (i := 8) rfl (ov_assign rfl) rfl rfl rfl (by kernel_rfl) (by kernel_rfl) (by kernel_rfl) rfl ?_
  refine wg_takep (i := 9) rfl (ov_assign rfl) rfl rfl rfl (by kernel_rfl) (by kernel_rfl) (by kernel_rfl) rfl ?_
  refine wg_done (by kernel_rfl) ?_
  refine ce_then ?_
  refine cw_seq ?_
  refine cw_region ?_
  refine wl_v (ov_move rfl) rfl rfl rfl ?_
  refine wl_if (OpV.dec (ov_not rfl)) rfl rfl rfl (fun c15 => ?_) (fun c15 => ?_)
  ·
    refine wl_v (ov_assign rfl) rfl rfl rfl ?_
    refine wl_nil ?_
    refine ce_then ?_
    refine cw_ret ?_
    refine ce_results (v := .bool true) (res1 rfl (rv_t rfl)) (fun w' hw => ?_)
    exact ⟨(by rw [c15]), (Keep.nil.ss hw).to_new⟩
  ·
    refine wl_v (ov_assign rfl) rfl rfl rfl ?_
    refine wl_nil ?_
    refine ce_then ?_
    refine cw_ret ?_
    refine ce_results (v := .bool false) (res1 rfl (rv_t rfl)) (fun w' hw => ?_)
    exact ⟨(by rw [Bool.not_eq_true] at c15; rw [c15]), (Keep.nil.ss hw).to_new⟩
set_option maxRecDepth 100000 in
theorem IsUniI_c (w : World) (A : Option Addr) (n : Nat) (c : Nat) (xs : List (Int)) (hA : At w A (cells fI xs)) (eA : xs.length = n) (lA : n ≤ c) (hs : xs.length ≤ 1048576) : Calls Try.prog 27 #[.slice A (n) (c)] w (Ret fun rv w' => rv = .bool (decide (UniP xs)) ∧ New w w' []) := by
  have oA := hA.atB
  subst eA
  have hal := allV_len xs
  refine fn_enter (args := [.slice A (xs.length) (c)]) Try.func27 rfl Try.ntmps27 rfl (SS.start w) ?_
  refine cw_seq ?_
  refine cw_region ?_
  refine wl_v (ov_assign rfl) rfl rfl rfl ?_
  refine wl_nil ?_
  refine ce_then ?_
  refine cw_seq ?_
  refine cw_region ?_
  refine wl_v (ov_move rfl) rfl rfl rfl ?_
  refine wl_r (or_call (fv := []) (vs := [.slice A (xs.length) (c)]) (cs := []) en52 rfl rfl (call_x3 (fun w hw => allReal_c w A xs.length c xs ((holds_old oA) w hw) rfl lA (by first | assumption | omega | (simp; omega))))) rfl rfl (kt3p rfl (fun A2_5 c2_5 hs_5 h_5 => ?_))
  refine ct_fact (nest_facts (List.Mem.tail _ (List.Mem.head _))) (fun hnf => ?_)
  have hgl : (gsOf xs.length hs_5).length = (allV xs).length := by rw [gsOf_length]; exact hnf.1
  refine wl_r (or_alloc tI55 rfl) rfl rfl (kt1 rfl (fun g3 => ?_))
  refine wl_r0 (or_store_blk (vs := [.slice A2_5 ((allV xs).length) ((allV xs).length)]) (cs' := [.slice A2_5 ((allV xs).length) ((allV xs).length)]) (.head) tI55 rfl rfl rfl rfl (Nat.le_of_ble_eq_true rfl) rfl) rfl rfl (kn0 ?_)
  refine wl_nil ?_
  refine ce_then ?_
  refine cw_seq ?_
  refine cw_region ?_
  refine wl_v (ov_load tI55 (holds_blk (List.Mem.head _)) rfl rfl) rfl rfl rfl ?_
  refine wl_v (ov_len (sliceI_spec sI55) rfl) rfl rfl rfl ?_
  refine wl_if (ov_gtr rfl rfl) rfl rfl rfl (fun c8 => ?_) (fun c8 => ?_)
  ·
    have hm6 : xs.length ≤ 6 := by by_cases h : xs.length ≤ 5; omega; rw [show allV xs = [] from if_neg (fun h2 => h h2.2)] at c8; simp at c8
    refine wl_v (ov_move rfl) rfl rfl rfl ?_
    refine wl_go rfl rfl ?_
    refine wl_v (ov_load tI55 (holds_blk (List.Mem.head _)) rfl rfl) rfl rfl rfl ?_
    refine wl_go rfl rfl ?_
    refine wl_v (ov_makeFunc (vs := #[elp (some ⟨g3, 0, none⟩) (0)]) rfl) rfl rfl rfl ?_
    refine wl_go rfl rfl ?_
    refine wl_r (or_call (fv := []) (vs := [.slice A2_5 ((allV xs).length) ((allV xs).length), .func (.func 54) #[] #[elp (some ⟨g3, 0, none⟩) (0)]]) (cs := []) en53 rfl rfl (call_v (fun w hw => containsFuncG_c w A2_5 ((allV xs).length) ((allV xs).length) (gsOf xs.length hs_5) 54 ([elp (some ⟨g3, 0, none⟩) (0)]) (fun i => !(mapI ((allV xs).getD 0 []) ((allV xs).getD i []) xs.length xs.length []).isSome) ((holds_row (List.Mem.tail _ (List.Mem.head _))) w hw) hgl (Nat.le_refl _) (by rw [hgl]; omega) en54 (fun i hi w' hb => by have hga := gs_at (m := xs.length) hnf (show i < (allV xs).length from hgl ▸ hi); unfold fG at hga; injection hga with ha1 ha2; injection ha2 with ha2 _; rw [ha1, ha2]; exact uni1_c w' xs.length (hs_5.getD i (none, 0, 0)).1 ((allV xs).getD i []).length (hs_5.getD i (none, 0, 0)).2.2 ((allV xs).getD i []) g3 A2_5 (allV xs).length (allV xs).length hs_5 ((allV xs).getD 0 []) ((holds_nest (List.Mem.tail _ (List.Mem.tail _ (List.Mem.head _))) (show i < (allV xs).length from hgl ▸ hi)) w' (hw.later hb)) rfl (hnf.2 i (hgl ▸ hi)).2 ((holds_blk (List.Mem.head _)) w' (hw.later hb)) ((holds_row (List.Mem.tail _ (List.Mem.head _))) w' (hw.later hb)) ((holds_nest (List.Mem.tail _ (List.Mem.tail _ (List.Mem.head _))) (show 0 < (allV xs).length by omega)) w' (hw.later hb)) (by rw [hnf.1]; omega) (hnf.2 0 (by omega)).1.symm (hnf.2 0 (by omega)).2 (allV_gr (hgl ▸ hi)) (allV_gr (by omega)) hm6 hnf.1.symm)))) rfl rfl (kt_if rfl (fun c12 => ?_) (fun c12 => ?_))
    ·
      refine wl_go rfl rfl ?_
      refine wl_v (ov_not rfl) rfl rfl rfl ?_
      refine wl_v (ov_pick_t rfl rfl) rfl rfl rfl ?_
      refine wl_v (ov_assign rfl) rfl rfl rfl ?_
      refine wl_nil ?_
      refine ce_then ?_
      refine cw_ret ?_
      refine ce_results (v := .bool false) (res1 rfl (rv_t rfl)) (fun w' hw => ?_)
      exact ⟨(bf (fun h => by obtain ⟨i, hi, hp⟩ := c12; rw [hgl] at hi; rw [h.2 i hi] at hp; cases hp)), (Keep.nil.ss hw).to_new⟩
    ·
      refine wl_go rfl rfl ?_
      refine wl_v (ov_not rfl) rfl rfl rfl ?_
      refine wl_v (ov_pick_t rfl rfl) rfl rfl rfl ?_
      refine wl_v (ov_assign rfl) rfl rfl rfl ?_
      refine wl_nil ?_
      refine ce_then ?_
      refine cw_ret ?_
      refine ce_results (v := .bool true) (res1 rfl (rv_t rfl)) (fun w' hw => ?_)
      exact ⟨(bt ⟨by omega, fun i hi => by by_cases hq : (mapI ((allV xs).getD 0 []) ((allV xs).getD i []) xs.length xs.length []).isSome = true; exact hq; exact absurd ⟨i, hgl.symm ▸ hi, by simpa using hq⟩ c12⟩), (Keep.nil.ss hw).to_new⟩
  ·
    refine wl_v (ov_move rfl) rfl rfl rfl ?_
    refine wl_not rfl rfl rfl rfl rfl rfl ?_
    refine wl_not rfl rfl rfl rfl rfl rfl ?_
    refine wl_not rfl rfl rfl rfl rfl rfl ?_
    refine wl_not rfl rfl rfl rfl rfl rfl ?_
    refine wl_v (ov_pick_f rfl rfl) rfl rfl rfl ?_
    refine wl_v (ov_assign rfl) rfl rfl rfl ?_
    refine wl_nil ?_
    refine ce_then ?_
    refine cw_ret ?_
    refine ce_results (v := .bool false) (res1 rfl (rv_t rfl)) (fun w' hw => ?_)
    exact ⟨(bf (fun h => c8 (by have := h.1; omega))), (Keep.nil.ss hw).to_new⟩
set_option maxRecDepth 100000 in
theorem IsUniS_c (w : World) (A : Option Addr) (n : Nat) (c : Nat) (xs : List (Int)) (hA : At w A (cells fI xs)) (eA : xs.length = n) (lA : n ≤ c) (hs : xs.length ≤ 1048576) : Calls Try.prog 26 #[.slice A (n) (c)] w (Ret fun rv w' => rv = .bool (decide (UniP xs)) ∧ New w w' []) := by
  have oA := hA.atB
  subst eA
  have hal := allV_len xs
  refine fn_enter (args := [.slice A (xs.length) (c)]) Try.func26 rfl Try.ntmps26 rfl (SS.start w) ?_
  refine cw_seq ?_
  refine cw_region ?_
  refine wl_v (ov_assign rfl) rfl rfl rfl ?_
  refine wl_nil ?_
  refine ce_then ?_
  refine cw_seq ?_
  refine cw_seq ?_
  refine cw_region ?_
  refine wl_v (ov_move rfl) rfl rfl rfl ?_
  refine wl_r (or_call (fv := []) (vs := [.slice A (xs.length) (c)]) (cs := []) en44 rfl rfl (call_v (fun w hw => validS_c w A xs.length c xs ((holds_old oA) w hw) rfl lA (by first | assumption | omega | (simp; omega))))) rfl rfl (kt_if rfl (fun c6 => ?_) (fun c6 => ?_))
  ·
    refine wl_v (ov_not rfl) rfl rfl rfl ?_
    refine wl_v (ov_move rfl) rfl rfl rfl ?_
    refine wl_go rfl rfl ?_
    refine wl_v (ov_move rfl) rfl rfl rfl ?_
    refine wl_go rfl rfl ?_
    refine wl_v (ov_len (sliceI_spec sI25) rfl) rfl rfl rfl ?_
    refine wl_go rfl rfl ?_
    refine wl_if (ov_gtr rfl rfl) rfl rfl rfl (fun c11 => ?_) (fun c11 => ?_)
    ·
      refine wl_v (ov_pick_f rfl rfl) rfl rfl rfl ?_
      refine wl_nil ?_
      refine ce_then ?_
      refine cw_true rfl ?_
      refine cw_seq ?_
      refine cw_region ?_
      refine wl_v (ov_assign rfl) rfl rfl rfl ?_
      refine wl_nil ?_
      refine ce_then ?_
      refine cw_ret ?_
      refine ce_then_ret ?_
      refine ce_results (v := .bool false) (res1 rfl (rv_t rfl)) (fun w' hw => ?_)
      exact ⟨(bf (fun h => by have h9 := h.1; rw [show allV xs = [] from if_neg (fun h2 => by have := h2.2; omega)] at h9; simp at h9)), (Keep.nil.ss hw).to_new⟩
    ·
      refine wl_v (ov_pick_f rfl rfl) rfl rfl rfl ?_
      refine wl_nil ?_
      refine ce_then ?_
      refine cw_false rfl ?_
      refine cw_skip ?_
      refine ce_then ?_
      refine cw_seq ?_
      refine cw_region ?_
      refine wl_v (ov_move rfl) rfl rfl rfl ?_
      refine wl_r (or_call (fv := []) (vs := [.slice A (xs.length) (c)]) (cs := []) en45 rfl rfl (call_x3 (fun w hw => realS_c w A xs.length c xs ((holds_old oA) w hw) rfl lA (by first | assumption | omega | (simp; omega)) (by omega)))) rfl rfl (kt3p rfl (fun A2_14 c2_14 hs_14 h_14 => ?_))
      refine ct_fact (nest_facts (List.Mem.tail _ (List.Mem.head _))) (fun hnf => ?_)
      have hgl : (gsOf xs.length hs_14).length = (allV xs).length := by rw [gsOf_length]; exact hnf.1
      refine wl_v (ov_assign rfl) rfl rfl rfl ?_
      refine wl_nil ?_
      refine ce_then ?_
      refine cw_seq ?_
      refine cw_seq ?_
      refine cw_region ?_
      refine wl_v (ov_assign rfl) rfl rfl rfl ?_
      refine wl_nil ?_
      refine ce_then ?_
      refine cw_block ?_
      refine cw_loop1 (fun (k : Nat) => [(3, .slice A2_14 ((allV xs).length) (c2_14)), (4, .int .i64 (((k : Nat) : Int)))]) (fun (k : Nat) => [row 30 2 A2_14 ((allV xs).length) (c2_14) (cells fG (gsOf xs.length hs_14)), nest 70 2 fE hs_14 (allV xs)]) (fun (k : Nat) => 1 ≤ k ∧ ∀ i, 1 ≤ i → i < k → (mapI ((allV xs).getD 0 []) ((allV xs).getD i []) xs.length xs.length []).isSome = true) (fun (k : Nat) => (allV xs).length - k) 1 ⟨by omega, fun i h1 h2 => by omega⟩ (.cons rfl (.cons (congrArg (fun z => some (Value.int .i64 z)) (show 1 = ((1 : Nat) : Int) by first | omega | rfl | (simp; done))) (.nil))) (.cons (.head) (.cons (.head) (.nil))) ?_
      intro R0 k hk hR0
      obtain ⟨hk1, hk2⟩ := hk
      refine cw_seq ?_
      refine cw_seq ?_
      refine cw_region ?_
      refine wl_v (ov_move rfl) rfl rfl rfl ?_
      refine wl_v (ov_move rfl) rfl rfl rfl ?_
      refine wl_v (ov_len (sliceI_spec sI55) rfl) rfl rfl rfl ?_
      refine wl_if (ov_lss rfl rfl) rfl rfl rfl (fun c18 => ?_) (fun c18 => ?_)
      ·
        refine wl_nil ?_
        refine ce_then ?_
        refine cw_true rfl ?_
        refine cw_skip ?_
        refine ce_then ?_
        refine cw_seq ?_
        refine cw_block ?_
        refine cw_seq ?_
        refine cw_draw mixO [] (.cons (.head) (.cons (.head) (.nil))) rfl ?_
        refine wg_takep (i := 0) rfl (ov_move rfl) rfl rfl rfl (by kernel_rfl) (by kernel_rfl) (by kernel_rfl) rfl ?_
        refine stg_fact (nest_facts (List.Mem.tail _ (List.Mem.head _))) (fun hnf22 => ?_)
        have hnl22 := hnf22.1
        refine wg_take (i := 1) rfl (ov_index (k := 0) (c := c2_14) sI55 tI30 rfl rfl (some_holds (q := 0 * 2) (holds_row (List.Mem.head _)) (by rw [cells_length fG_len]; have hlt : 0 < (gsOf xs.length hs_14).length := (by omega); omega)) (show 0 < (allV xs).length from (by omega))) rfl rfl rfl (by kernel_rfl) (by kernel_rfl) (by kernel_rfl) (by kernel_rfl) ?_
        refine wg_take (i := 2) rfl (ov_loadAgg (vs := [.int .i64 (((xs.length : Nat) : Int)), .slice ((hs_14.getD 0 (none, 0, 0)).1) (((allV xs).getD 0 []).length) ((hs_14.getD 0 (none, 0, 0)).2.2)]) tI30 (holds_row (List.Mem.head _)) rfl (some_holds (q := 0 * 2) (holds_row (List.Mem.head _)) (by rw [cells_length fG_len]; have hlt : 0 < (gsOf xs.length hs_14).length := (by omega); omega)) (elem_fG hnf22 (show 0 < (allV xs).length from (by omega))) rfl) rfl rfl rfl (by kernel_rfl) (by kernel_rfl) (by kernel_rfl) (by kernel_rfl) ?_
        refine wg_takep (i := 3) rfl (ov_move rfl) rfl rfl rfl (by kernel_rfl) (by kernel_rfl) (by kernel_rfl) rfl ?_
        refine wg_takep (i := 4) rfl (ov_move rfl) rfl rfl rfl (by kernel_rfl) (by kernel_rfl) (by kernel_rfl) rfl ?_
        refine stg_fact (nest_facts (List.Mem.tail _ (List.Mem.head _))) (fun hnf26 => ?_)
        have hnl26 := hnf26.1
        refine wg_take (i := 5) rfl (ov_index (k := k) (c := c2_14) sI55 tI30 rfl rfl (some_holds (q := k * 2) (holds_row (List.Mem.head _)) (by rw [cells_length fG_len]; have hlt : k < (gsOf xs.length hs_14).length := (by omega); omega)) (show k < (allV xs).length from (by omega))) rfl rfl rfl (by kernel_rfl) (by kernel_rfl) (by kernel_rfl) (by kernel_rfl) ?_
        refine wg_take (i := 6) rfl (ov_loadAgg (vs := [.int .i64 (((xs.length : Nat) : Int)), .slice ((hs_14.getD k (none, 0, 0)).1) (((allV xs).getD k []).length) ((hs_14.getD k (none, 0, 0)).2.2)]) tI30 (holds_row (List.Mem.head _)) rfl (some_holds (q := k * 2) (holds_row (List.Mem.head _)) (by rw [cells_length fG_len]; have hlt : k < (gsOf xs.length hs_14).length := (by omega); omega)) (elem_fG hnf26 (show k < (allV xs).length from (by omega))) rfl) rfl rfl rfl (by kernel_rfl) (by kernel_rfl) (by kernel_rfl) (by kernel_rfl) ?_
        refine wg_one (i := 7) (by kernel_rfl) ?_
        refine go_r rfl rfl rfl rfl (or_call (fv := []) (vs := [.agg #[.int .i64 (((xs.length : Nat) : Int)), .slice ((hs_14.getD 0 (none, 0, 0)).1) (((allV xs).getD 0 []).length) ((hs_14.getD 0 (none, 0, 0)).2.2)], .agg #[.int .i64 (((xs.length : Nat) : Int)), .slice ((hs_14.getD k (none, 0, 0)).1) (((allV xs).getD k []).length) ((hs_14.getD k (none, 0, 0)).2.2)]]) (cs := []) en39 rfl rfl (call_v (fun w hw => alike_c w xs.length ((hs_14.getD 0 (none, 0, 0)).1) (((allV xs).getD 0 []).length) ((hs_14.getD 0 (none, 0, 0)).2.2) ((allV xs).getD 0 []) xs.length ((hs_14.getD k (none, 0, 0)).1) (((allV xs).getD k []).length) ((hs_14.getD k (none, 0, 0)).2.2) ((allV xs).getD k []) ((holds_nest (List.Mem.tail _ (List.Mem.head _)) (show 0 < (allV xs).length from (by omega))) w hw) rfl (hnf22.2 0 (show 0 < (allV xs).length from (by omega))).2 ((holds_nest (List.Mem.tail _ (List.Mem.head _)) (show k < (allV xs).length from (by omega))) w hw) rfl (hnf26.2 k (show k < (allV xs).length from (by omega))).2 rfl (allV_gr (by omega)) (allV_gr (by omega)) (by omega)))) (kt_if rfl (fun c28 => ?_) (fun c28 => ?_))
        ·
          refine gk (.cons (.head) (.cons (.head) (.nil))) ?_
          refine wg_takep (i := 8) rfl (ov_not rfl) rfl rfl rfl (by kernel_rfl) (by kernel_rfl) (by kernel_rfl) rfl ?_
          refine wg_done (by kernel_rfl) ?_
          refine ce_then ?_
          refine cw_false rfl ?_
          refine cw_skip ?_
          refine ce_block ?_
          refine ce_then ?_
          refine cw_region ?_
          refine wl_v (ov_move rfl) rfl rfl rfl ?_
          refine wl_v (ov_add (r := ((k + 1 : Nat) : Int)) rfl rfl rfl (by omega)) rfl rfl rfl ?_
          refine wl_v (ov_assign rfl) rfl rfl rfl ?_
          refine wl_nil ?_
          exact fun ac_ w_ hs_ => hR0 (k + 1) ⟨by omega, fun i h1 hi => by rcases Nat.lt_succ_iff_lt_or_eq.1 hi with h | rfl; exact hk2 i h1 h; exact c28⟩ (by omega) ac_ w_ (hs_.weaken (.cons rfl (.cons rfl (.nil))) (.cons (.head) (.cons (.head) (.nil))))
        ·
          refine gk (.cons (.head) (.cons (.head) (.nil))) ?_
          refine wg_takep (i := 8) rfl (ov_not rfl) rfl rfl rfl (by kernel_rfl) (by kernel_rfl) (by kernel_rfl) rfl ?_
          refine wg_done (by kernel_rfl) ?_
          refine ce_then ?_
          refine cw_true rfl ?_
          refine cw_seq ?_
          refine cw_region ?_
          refine wl_v (ov_assign rfl) rfl rfl rfl ?_
          refine wl_nil ?_
          refine ce_then ?_
          refine cw_ret ?_
          refine ce_block_ret ?_
          refine ce_then_ret ?_
          refine ce_then_ret ?_
          refine ce_block_ret ?_
          refine ce_then_ret ?_
          refine ce_results (v := .bool false) (res1 rfl (rv_t rfl)) (fun w' hw => ?_)
          exact ⟨(bf (fun h => c28 (h.2 k (by omega)))), (Keep.nil.ss hw).to_new⟩
      ·
        refine wl_nil ?_
        refine ce_then ?_
        refine cw_false rfl ?_
        refine cw_exit ?_
        refine ce_then_exit ?_
        refine ce_then_exit ?_
        refine ce_hit ?_
        refine ce_then ?_
        refine cw_seq ?_
        refine cw_region ?_
        refine wl_v (ov_move rfl) rfl rfl rfl ?_
        refine wl_v (ov_len (sliceI_spec sI55) rfl) rfl rfl rfl ?_
        refine wl_if (ov_gtr rfl rfl) rfl rfl rfl (fun c32 => ?_) (fun c32 => ?_)
        ·
          refine wl_v (ov_assign rfl) rfl rfl rfl ?_
          refine wl_nil ?_
          refine ce_then ?_
          refine cw_ret ?_
          refine ce_results (v := .bool true) (res1 rfl (rv_t rfl)) (fun w' hw => ?_)
          exact ⟨(bt ⟨by omega, fun i hi => by rcases Nat.eq_zero_or_pos i with rfl | h0; exact mapI_self _ _ (allV_gr hi); exact hk2 i h0 (by omega)⟩), (Keep.nil.ss hw).to_new⟩
        ·
          refine wl_v (ov_assign rfl) rfl rfl rfl ?_
          refine wl_nil ?_
          refine ce_then ?_
          refine cw_ret ?_
          refine ce_results (v := .bool false) (res1 rfl (rv_t rfl)) (fun w' hw => ?_)
          exact ⟨(bf (fun h => c32 (by have := h.1; omega))), (Keep.nil.ss hw).to_new⟩
  ·
    refine wl_v (ov_not rfl) rfl rfl rfl ?_
    refine wl_v (ov_move rfl) rfl rfl rfl ?_
    refine wl_not rfl rfl rfl rfl rfl rfl ?_
    refine wl_not rfl rfl rfl rfl rfl rfl ?_
    refine wl_not rfl rfl rfl rfl rfl rfl ?_
    refine wl_v (ov_pick_t rfl rfl) rfl rfl rfl ?_
    refine wl_nil ?_
    refine ce_then ?_
    refine cw_true rfl ?_
    refine cw_seq ?_
    refine cw_region ?_
    refine wl_v (ov_assign rfl) rfl rfl rfl ?_
    refine wl_nil ?_
    refine ce_then ?_
    refine cw_ret ?_
    refine ce_then_ret ?_
    refine ce_results (v := .bool false) (res1 rfl (rv_t rfl)) (fun w' hw => ?_)
    exact ⟨(bf (fun h => by have h9 := h.1; rw [show allV xs = [] from if_neg (fun h2 => c6 h2.1)] at h9; simp at h9)), (Keep.nil.ss hw).to_new⟩
end Go.Proofs.Ytlgkooeflgmcaab.W19
