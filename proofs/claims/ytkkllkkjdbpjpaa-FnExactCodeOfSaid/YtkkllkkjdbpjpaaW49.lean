/- Walks of functions of the given program: each returns what its Lean function says and leaves the memory that was there as it was. Conditions: those of each theorem. -/
import Derived.Test.YtkkllkkjdbpjpaaSm
import Derived.Test.YtkkllkkjdbpjpaaProg
import Derived.Test.YtkkllkkjdbpjpaaPl
import Derived.Test.YtkkllkkjdbpjpaaPo
import Derived.Test.YtkkllkkjdbpjpaaPd
import Derived.Test.YtkkllkkjdbpjpaaPe
import Derived.Test.YtkkllkkjdbpjpaaPh
import Derived.Test.YtkkllkkjdbpjpaaPm
import Derived.Test.YtkkllkkjdbpjpaaPc
import Derived.Test.YtkkllkkjdbpjpaaPs
import Derived.Test.YtkkllkkjdbpjpaaPt
import Derived.Test.YtkkllkkjdbpjpaaPu
import Derived.Test.YtkkllkkjdbpjpaaPv
import Derived.Test.YtkkllkkjdbpjpaaPw
import Derived.Test.YtkkllkkjdbpjpaaPx
import Derived.Test.YtkkllkkjdbpjpaaPy
import Derived.Test.YtkkllkkjdbpjpaaPz
import Derived.Test.YtkkllkkjdbpjpaaPr
import Derived.Test.YtkkllkkjdbpjpaaPa
import Derived.Test.YtkkllkkjdbpjpaaPn
import Derived.Test.YtkkllkkjdbpjpaaPj
import Derived.Test.YtkkllkkjdbpjpaaPq
import Derived.Test.YtkkllkkjdbpjpaaSp
import Derived.Test.YtkkllkkjdbpjpaaPp
import Derived.Test.YtkkllkkjdbpjpaaSs
import Derived.Test.YtkkllkkjdbpjpaaSr
import Derived.Test.YtkkllkkjdbpjpaaPb
import Derived.Test.YtkkllkkjdbpjpaaSe
import Derived.Test.YtkkllkkjdbpjpaaSf
import Derived.Test.YtkkllkkjdbpjpaaT
import Derived.Test.YtkkllkkjdbpjpaaW5
import Derived.KernelRfl
namespace Go.Proofs.Ytkkllkkjdbpjpaa.W49
open Go.Sx Go.RowKit Go.Proofs.Ytkkllkkjdbpjpaa.T Go.Proofs.Ytkkllkkjdbpjpaa.W5
open Go.Plain
set_option linter.unusedVariables false
set_option maxRecDepth 100000 in
theorem code1_c (w : World) (u : Int) (g1 : Nat) (g2 : Nat) (v : Int) (N : Int) (A : Option Addr) (n : Nat) (c : Nat) (es : List Ed) (hg1 : At w (some ⟨g1, 0, none⟩) [.int .i64 (v)]) (hg2 : At w (some ⟨g2, 0, none⟩) [.int .i64 (N), .slice A (n) (c)]) (hA : At w A (cells fE es)) (hq : es.length = n) (lA : n ≤ c) (hs : n ≤ 1048576) : Calls Try.prog 70 #[.int .i64 (u), elp (some ⟨g1, 0, none⟩) (0), elp (some ⟨g2, 0, none⟩) (0)] w (Ret fun rv w' => rv = .bool (adjP es v u) ∧ New w w' []) := by
  have og1 := hg1.atB
  have og2 := hg2.atB
  have oA := hA.atB
  refine fn_enter (args := [.int .i64 (u), elp (some ⟨g1, 0, none⟩) (0), elp (some ⟨g2, 0, none⟩) (0)]) Try.func70 rfl Try.ntmps70 rfl (SS.start w) ?_
  refine cw_seq ?_
  refine cw_region ?_
  refine wl_v (ov_assign rfl) rfl rfl rfl ?_
  refine wl_nil ?_
  refine ce_then ?_
  refine cw_seq ?_
  refine cw_region ?_
  refine wl_v (ov_move rfl) rfl rfl rfl ?_
  refine wl_v (ov_load tI3 (holds_old og1) rfl rfl) rfl rfl rfl ?_
  refine wl_if (ov_neq rfl rfl) rfl rfl rfl (fun c7 => ?_) (fun c7 => ?_)
  ·
    refine wl_v (ov_move rfl) rfl rfl rfl ?_
    refine wl_go rfl rfl ?_
    refine wl_v (ov_loadAgg (vs := [.int .i64 (N), .slice A (n) (c)]) tI25 (holds_old og2) rfl some_lit rfl rfl) rfl rfl rfl ?_
    refine wl_go rfl rfl ?_
    refine wl_v (ov_move rfl) rfl rfl rfl ?_
    refine wl_go rfl rfl ?_
    refine wl_v (ov_load tI3 (holds_old og1) rfl rfl) rfl rfl rfl ?_
    refine wl_go rfl rfl ?_
    refine wl_r (or_call (fv := []) (vs := [.agg #[.int .i64 (N), .slice A (n) (c)], .int .i64 (u), .int .i64 (v)]) (cs := []) en71 rfl rfl (call_v (fun w hw => has_c w N A n c es u v ((holds_old oA) w hw) hq lA (by omega)))) rfl rfl (kt_if rfl (fun c12 => ?_) (fun c12 => ?_))
    ·
      refine wl_v (ov_pick_t rfl rfl) rfl rfl rfl ?_
      refine wl_v (ov_assign rfl) rfl rfl rfl ?_
      refine wl_nil ?_
      refine ce_then ?_
      refine cw_ret ?_
      refine ce_results (v := .bool true) (res1 rfl (rv_t rfl)) (fun w' hw => ?_)
      exact ⟨(by unfold adjP; rw [decide_eq_true c7, decide_eq_true (show edg u v ∈ es from c12)]; rfl), (Keep.nil.ss hw).to_new⟩
    ·
      refine wl_v (ov_pick_t rfl rfl) rfl rfl rfl ?_
      refine wl_v (ov_assign rfl) rfl rfl rfl ?_
      refine wl_nil ?_
      refine ce_then ?_
      refine cw_ret ?_
      refine ce_results (v := .bool false) (res1 rfl (rv_t rfl)) (fun w' hw => ?_)
      exact ⟨(by unfold adjP; rw [decide_eq_true c7, decide_eq_false (show ¬ edg u v ∈ es from c12)]; rfl), (Keep.nil.ss hw).to_new⟩
  ·
    refine wl_v (ov_move rfl) rfl rfl rfl ?_
    refine wl_not rfl rfl rfl rfl rfl rfl ?_
    refine wl_not rfl rfl rfl rfl rfl rfl ?_
    refine wl_not rfl rfl rfl rfl rfl rfl ?_
    refine wl_not rfl rfl rfl rfl rfl rfl ?_
    refine wl_v (ov_pick_f rfl rfl) rfl rfl rfl ?_
    refine wl_v (ov_assign rfl) rfl rfl rfl ?_
    refine wl_nil ?_
    refine ce_then ?_
    refine cw_ret ?_
    refine ce_results (v := .bool false) (res1 rfl (rv_t rfl)) (fun w' hw => ?_)
    exact ⟨(by unfold adjP; rw [decide_eq_false c7]; rfl), (Keep.nil.ss hw).to_new⟩
set_option maxRecDepth 100000 in
theorem code2_c (w : World) (u : Int) (g1 : Nat) (v : Int) (hg1 : At w (some ⟨g1, 0, none⟩) [.int .i64 (v)]) : Calls Try.prog 74 #[.int .i64 (u), elp (some ⟨g1, 0, none⟩) (0)] w (Ret fun rv w' => rv = .bool (decide (u = v)) ∧ New w w' []) := by
  have og1 := hg1.atB
  refine fn_enter (args := [.int .i64 (u), elp (some ⟨g1, 0, none⟩) (0)]) Try.func74 rfl Try.ntmps74 rfl (SS.start w) ?_
  refine cw_seq ?_
  refine cw_region ?_
  refine wl_v (ov_assign rfl) rfl rfl rfl ?_
  refine wl_nil ?_
  refine ce_then ?_
  refine cw_seq ?_
  refine cw_region ?_
  refine wl_v (ov_move rfl) rfl rfl rfl ?_
  refine wl_v (ov_load tI3 (holds_old og1) rfl rfl) rfl rfl rfl ?_
  refine wl_if (ov_eql rfl rfl) rfl rfl rfl (fun c6 => ?_) (fun c6 => ?_)
  ·
    refine wl_v (ov_assign rfl) rfl rfl rfl ?_
    refine wl_nil ?_
    refine ce_then ?_
    refine cw_ret ?_
    refine ce_results (v := .bool true) (res1 rfl (rv_t rfl)) (fun w' hw => ?_)
    exact ⟨(by rw [decide_eq_true c6]), (Keep.nil.ss hw).to_new⟩
  ·
    refine wl_v (ov_assign rfl) rfl rfl rfl ?_
    refine wl_nil ?_
    refine ce_then ?_
    refine cw_ret ?_
    refine ce_results (v := .bool false) (res1 rfl (rv_t rfl)) (fun w' hw => ?_)
    exact ⟨(by rw [decide_eq_false c6]), (Keep.nil.ss hw).to_new⟩
set_option maxRecDepth 100000 in
theorem backward_c (w : World) (A : Option Addr) (n : Nat) (c : Nat) (xs : List (Int)) (hA : At w A (cells fI xs)) (eA : xs.length = n) (lA : n ≤ c) : Calls Try.prog 69 #[.slice A (n) (c)] w (Ret fun rv w' => ∃ g, (True) ∧ rv = .func (.func 101) #[] #[elp (some ⟨g, 0, none⟩) (0)] ∧ New w w' [blk g [.slice A (n) (c)] 38]) := by
  have oA := hA.atB
  subst eA
  refine fn_enter (args := [.slice A (xs.length) (c)]) Try.func69 rfl Try.ntmps69 rfl (SS.start w) ?_
  refine cw_seq ?_
  refine cw_region ?_
  refine wl_r (or_box rfl rfl) rfl rfl (kt1 rfl (fun g1 => ?_))
  refine wl_v (ov_assign rfl) rfl rfl rfl ?_
  refine wl_nil ?_
  refine ce_then ?_
  refine cw_seq ?_
  refine cw_region ?_
  refine wl_v (ov_makeFunc (vs := #[elp (some ⟨g1, 0, none⟩) (0)]) rfl) rfl rfl rfl ?_
  refine wl_v (ov_assign rfl) rfl rfl rfl ?_
  refine wl_nil ?_
  refine ce_then ?_
  refine cw_ret ?_
  refine ce_results (v := .func (.func 101) #[] #[elp (some ⟨g1, 0, none⟩) (0)]) (res1 rfl (rv_t rfl)) (fun w' hw => ?_)
  exact ⟨g1, trivial, rfl, ((.cons (.head) (.nil) : Keep _ _).ss hw).to_new⟩
set_option maxRecDepth 100000 in
theorem back_c : BackC Try.prog 101 38 := by
  intro w w0 Bd Hs l gb A m c xs r0 C X hss hps hm hmb hbox hrow hround
  have hbm : blk gb [.slice A m c] 38 ∈ (loopE l r0 :: Hs) := List.mem_cons_of_mem _ hbox
  have nl : ∀ a w', ¬ bodyPost Try.prog Try.f101 (fun e w' => (∃ v, e = .returned v) ∧ (((∀ j, j < m → C j) ∧ SS w0 Bd (loopE l r0 :: Hs) w') ∨ ∃ j, j < m ∧ (∀ i, j < i → i < m → C i) ∧ X j w')) .outgrown a w' := by
    rintro a w' ⟨⟨v, hv⟩, _⟩; cases hv
  refine fn_enterI (args := [.func (.yield l) #[] #[], .pointer (some ⟨gb, 0, none⟩)]) Try.func101 rfl Try.ntmps101 rfl hss ?_
  refine cwi_seq ?_
  refine cwi_region (fun a w h => nl a w h) rfl ?_
  refine wl_v (ov_load tI38 (holds_blk hbm) (q := 0) (show _ = some (elp (some ⟨gb, 0, none⟩) 0) by rw [elp_zero]; rfl) rfl) rfl rfl rfl ?_
  refine wl_v (ov_len (sliceI_spec sI38) rfl) rfl rfl rfl ?_
  refine wl_v (ov_sub (r := (m : Int) - 1) rfl rfl rfl (by omega)) rfl rfl rfl ?_
  refine wl_v (ov_assign rfl) rfl rfl rfl ?_
  refine wl_nil ?_
  refine cei_then ?_
  refine cwi_block ?_
  refine cwi_down (fun i => [(0, .func (.yield l) #[] #[]), (1, .pointer (some ⟨gb, 0, none⟩)), (3, .int .i64 ((i : Int) - 1))]) (fun _ => loopE l r0 :: Hs) (fun i => i ≤ m ∧ ∀ j, i ≤ j → j < m → C j) m ⟨Nat.le_refl _, fun j h1 h2 => absurd h2 (by omega)⟩ (.cons rfl (.cons rfl (.cons rfl .nil))) .refl ?_
  intro R i hi hR
  obtain ⟨hi1, hi2⟩ := hi
  refine cwi_seq ?_
  refine cwi_seq ?_
  refine cwi_region (fun a w h => nl a w h) rfl ?_
  refine wl_v (ov_move rfl) rfl rfl rfl ?_
  refine wl_if (ov_geq rfl rfl) rfl rfl rfl (fun c8 => ?_) (fun c8 => ?_)
  · obtain ⟨i', rfl⟩ : ∃ i', i = i' + 1 := ⟨i - 1, by omega⟩
    refine wl_nil ?_
    refine cei_then ?_
    refine cwi_true rfl ?_
    refine cwi_skip ?_
    refine cei_then ?_
    refine cwi_seq ?_
    refine cwi_block ?_
    refine cwi_seq ?_
    refine ct_keep (L' := [(0, .func (.yield l) #[] #[]), (1, .pointer (some ⟨gb, 0, none⟩)), (3, .int .i64 (i' : Int))]) (.cons rfl (.cons rfl (.cons (congrArg (fun z => some (Value.int .i64 z)) (show (((i' + 1 : Nat) : Int) - 1) = (i' : Int) by omega)) .nil))) .refl ?_
    refine cwi_region_at (k := 6) (fun a w h => nl a w h) rfl ?_
    refine wl_v (ov_move rfl) rfl rfl rfl ?_
    refine wl_v (ov_move rfl) rfl rfl rfl ?_
    refine wl_v (ov_load tI38 (holds_blk hbm) (q := 0) (show _ = some (elp (some ⟨gb, 0, none⟩) 0) by rw [elp_zero]; rfl) rfl) rfl rfl rfl ?_
    refine wl_v (ov_move rfl) rfl rfl rfl ?_
    refine wl_v (ov_index (k := i') (c := c) sI38 tI3 rfl rfl (some_holds (q := i' * 1) hrow (by rw [cells_length fI_len]; omega)) (show i' < m by omega)) rfl rfl rfl ?_
    refine wl_v (ov_load tI3 hrow rfl (get_fI (show i' < xs.length by omega))) rfl rfl rfl ?_
    refine wl_nil ?_
    refine wli_yield (C := C i') (X := X i') rfl rfl rfl hps rfl (fun w1 hw1 => hround i' (by omega) w1 hw1) (fun hC => ?_) ?_
    · refine wli_of (fun a w h => nl a w h) rfl ?_
      refine wl_v (ov_not rfl) rfl rfl rfl ?_
      refine wl_nil ?_
      refine cei_then ?_
      refine cwi_false rfl ?_
      refine cwi_skip ?_
      refine ce_block ?_
      refine cei_then ?_
      refine cwi_region (fun a w h => nl a w h) rfl ?_
      refine wl_v (ov_move rfl) rfl rfl rfl ?_
      refine wl_v (ov_sub (r := (i' : Int) - 1) rfl rfl rfl (by omega)) rfl rfl rfl ?_
      refine wl_v (ov_assign rfl) rfl rfl rfl ?_
      refine wl_nil ?_
      exact fun a w hs => hR i' ⟨by omega, fun j h1 h2 => by
        rcases Nat.eq_or_lt_of_le h1 with rfl | h3
        · exact hC
        · exact hi2 j h3 h2⟩ (by omega) a w (hs.weaken (.cons rfl (.cons rfl (.cons rfl .nil))) .refl)
    · refine wlx_v (ov_not rfl) rfl rfl rfl rfl ?_
      refine cei_then ?_
      refine cwx_true rfl ?_
      refine cwi_ret ?_
      intro a w hs
      exact ⟨hs.1.defers, _, results_none rfl _ _ _, ⟨_, rfl⟩, .inr ⟨i', by omega, fun j h1 h2 => hi2 j (by omega) h2, hs.2⟩⟩
  · refine wl_nil ?_
    refine cei_then ?_
    refine cwi_false rfl ?_
    refine cwi_exit ?_
    refine ce_then_exit ?_
    refine ce_then_exit ?_
    refine ce_hit ?_
    intro a w hs
    exact ⟨hs.fr.defers, _, results_none rfl _ _ _, ⟨_, rfl⟩, .inl ⟨fun j hj => hi2 j (by omega) hj, hs.ss⟩⟩

end Go.Proofs.Ytkkllkkjdbpjpaa.W49
