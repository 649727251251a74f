/- Walks of functions of the given program: each returns what its Lean function says and leaves the memory that was there as it was. Conditions: those of each theorem. -/
import Derived.Test.YthbfgkeoojghoaaSm
import Derived.Test.YthbfgkeoojghoaaProg
import Derived.Test.YthbfgkeoojghoaaPl
import Derived.Test.YthbfgkeoojghoaaPo
import Derived.Test.YthbfgkeoojghoaaPd
import Derived.Test.YthbfgkeoojghoaaPe
import Derived.Test.YthbfgkeoojghoaaPh
import Derived.Test.YthbfgkeoojghoaaPm
import Derived.Test.YthbfgkeoojghoaaPc
import Derived.Test.YthbfgkeoojghoaaPs
import Derived.Test.YthbfgkeoojghoaaPt
import Derived.Test.YthbfgkeoojghoaaPu
import Derived.Test.YthbfgkeoojghoaaPv
import Derived.Test.YthbfgkeoojghoaaPw
import Derived.Test.YthbfgkeoojghoaaPx
import Derived.Test.YthbfgkeoojghoaaPy
import Derived.Test.YthbfgkeoojghoaaPz
import Derived.Test.YthbfgkeoojghoaaSo
import Derived.Test.YthbfgkeoojghoaaSh
import Derived.Test.YthbfgkeoojghoaaT
import Derived.Test.YthbfgkeoojghoaaW11
import Derived.Test.YthbfgkeoojghoaaW24
import Derived.Test.YthbfgkeoojghoaaW30
import Derived.KernelRfl
namespace Go.Proofs.Ythbfgkeoojghoaa.W41
open Go.Sx Go.RowKit Go.Proofs.Ythbfgkeoojghoaa.T Go.Proofs.Ythbfgkeoojghoaa.W11 Go.Proofs.Ythbfgkeoojghoaa.W24 Go.Proofs.Ythbfgkeoojghoaa.W30
open Go.Plain
set_option linter.unusedVariables false
set_option maxRecDepth 100000 in
theorem splitG_c (w : World) (A : Option Addr) (n : Nat) (c : Nat) (hs : List Hd) (xss : List (List Int)) (b : Nat) (hA : At w A (cells fL hs)) (eA : xss.length = n) (lA : n ≤ c) (fA : NestF hs xss) (mA : Mx w hs xss) (hM : M01 b xss) (h1 : 1 ≤ xss.length ∧ xss.length ≤ 4 ∧ b ≤ 2) : Calls Try.prog 45 #[.slice A (n) (c)] w (Ret fun rv w' => ∃ A2 c2 es, (es.length ≤ c2 ∧ es.Sublist (prs (xss.length + (xss.getD 0 []).length))) ∧ rv = .agg #[.int .i64 (((xss.length + (xss.getD 0 []).length : Nat) : Int)), .slice A2 (es.length) (c2)] ∧ New w w' [row 71 2 A2 (es.length) (c2) (cells fE es)]) := by
  have oA := hA.atB
  subst eA
  have flA := fA.1
  have omA := Mx.atB mA
  have hc0 := hM.len_at (i := 0) (by omega)
  have hpl := prs_small (xss.length + (xss.getD 0 []).length) (by omega)
  refine fn_enter (args := [.slice A (xss.length) (c)]) Try.func45 rfl Try.ntmps45 rfl (SS.start w) ?_
  refine cw_seq ?_
  refine cw_region ?_
  refine wl_r (or_alloc tI25 rfl) rfl rfl (kt1 rfl (fun g2 => ?_))
  refine wl_nil ?_
  refine ce_then ?_
  refine cw_seq ?_
  refine cw_region ?_
  refine wl_v (ov_move rfl) rfl rfl rfl ?_
  refine wl_v (ov_len (sliceI_spec sI50) rfl) rfl rfl rfl ?_
  refine wl_v (ov_move rfl) rfl rfl rfl ?_
  refine wl_v (ov_index (k := 0) (c := c) sI50 tI27 rfl rfl (some_holds (q := 0 * 1) (holds_old oA) (by rw [cells_length fL_len]; have hlt : 0 < hs.length := (by omega); omega)) (show 0 < xss.length from (by omega))) rfl rfl rfl ?_
  refine wl_v (ov_load tI27 (holds_old oA) rfl (get_fLn fA (show 0 < xss.length from (by omega)))) rfl rfl rfl ?_
  refine wl_v (ov_len (sliceI_spec sI27) rfl) rfl rfl rfl ?_
  refine wl_v (ov_add (r := ((xss.length + ((xss.getD 0 []).length) : Nat) : Int)) rfl rfl rfl (by omega)) rfl rfl rfl ?_
  refine wl_r (or_buildSlice (e := 71) (size := 2) (is := []) (vs := []) (cs := cells fE ([])) rfl rfl rfl (by decide) (fun _ => by kernel_rfl)) rfl rfl (kt1 rfl (fun g14 => ?_))
  refine wl_v (ov_build (is := [0, 1]) (vs := [.int .i64 (((xss.length + ((xss.getD 0 []).length) : Nat) : Int)), .slice (some ⟨g14, 0, none⟩) (0) (0)]) (v := .agg #[.int .i64 (((xss.length + ((xss.getD 0 []).length) : Nat) : Int)), .slice (some ⟨g14, 0, none⟩) (0) (0)]) rfl rfl (fun _ => by kernel_rfl)) rfl rfl rfl ?_
  refine wl_r (or_alloc tI25 rfl) rfl rfl (kt1 rfl (fun g3 => ?_))
  refine wl_r0 (or_store_blk (vs := [.int .i64 (((xss.length + ((xss.getD 0 []).length) : Nat) : Int)), .slice (some ⟨g14, 0, none⟩) (0) (0)]) (cs' := [.int .i64 (((xss.length + ((xss.getD 0 []).length) : Nat) : Int)), .slice (some ⟨g14, 0, none⟩) (0) (0)]) (.head) tI25 rfl rfl rfl rfl (Nat.le_of_ble_eq_true rfl) rfl) rfl rfl (kn0 ?_)
  refine wl_nil ?_
  refine ce_then ?_
  refine cw_seq ?_
  refine cw_region ?_
  refine wl_v (ov_fieldAddr fI25_0 some_lit rfl) rfl rfl rfl ?_
  refine wl_v (ov_load tI3 (holds_blk (List.Mem.head _)) rfl rfl) rfl rfl rfl ?_
  refine wl_r (or_call (fv := []) (vs := [.int .i64 (((xss.length + ((xss.getD 0 []).length) : Nat) : Int))]) (cs := []) en92 rfl rfl (call_x2 (fun w hw => pairsS_c w (xss.length + ((xss.getD 0 []).length)) (by omega)))) rfl rfl (kt2p rfl (fun A2_18 c2_18 h_18 => ?_))
  refine wl_v (ov_assign rfl) rfl rfl rfl ?_
  refine wl_nil ?_
  refine ce_then ?_
  refine cw_seq ?_
  refine cw_seq ?_
  refine cw_region ?_
  refine wl_v (ov_assign rfl) rfl rfl rfl ?_
  refine wl_nil ?_
  refine ce_then ?_
  refine cw_block ?_
  refine cw_loop4 (fun (k : Nat) (A3 : Option Addr) (c3 : Nat) (fs : List Ed) => [(0, .slice A (xss.length) (c)), (2, elp (some ⟨g2, 0, none⟩) (0)), (3, elp (some ⟨g3, 0, none⟩) (0)), (4, .slice A2_18 ((prs (xss.length + ((xss.getD 0 []).length))).length) (c2_18)), (5, .int .i64 (((k : Nat) : Int)))]) (fun (k : Nat) (A3 : Option Addr) (c3 : Nat) (fs : List Ed) => [row 71 2 A2_18 ((prs (xss.length + ((xss.getD 0 []).length))).length) (c2_18) (cells fE (prs (xss.length + ((xss.getD 0 []).length)))), blk g3 [.int .i64 (((xss.length + (xss.getD 0 []).length : Nat) : Int)), .slice A3 (fs.length) (c3)] 25, row 71 2 A3 (fs.length) (c3) (cells fE fs), blk g2 [.int .i64 (0), .slice none (0) (0)] 25]) (fun (k : Nat) (A3 : Option Addr) (c3 : Nat) (fs : List Ed) => k ≤ (prs (xss.length + (xss.getD 0 []).length)).length ∧ fs.length ≤ c3 ∧ fs.Sublist ((prs (xss.length + (xss.getD 0 []).length)).take k)) (fun (k : Nat) (A3 : Option Addr) (c3 : Nat) (fs : List Ed) => (prs (xss.length + (xss.getD 0 []).length)).length - k) 0 (some ⟨g14, 0, none⟩) 0 ([]) ⟨by omega, Nat.le_refl _, List.nil_sublist _⟩ (.cons rfl (.cons rfl (.cons rfl (.cons rfl (.cons (congrArg (fun z => some (Value.int .i64 z)) (show 0 = ((0 : Nat) : Int) by first | omega | rfl | (simp; done))) (.nil)))))) (.cons (.head) (.consE (show blk g3 [.int .i64 (((xss.length + ((xss.getD 0 []).length) : Nat) : Int)), .slice (some ⟨g14, 0, none⟩) (0) (0)] 25 = blk g3 [.int .i64 (((xss.length + (xss.getD 0 []).length : Nat) : Int)), .slice (some ⟨g14, 0, none⟩) (([]).length) (0)] 25 by rfl) (.head) (.consE (show row 71 2 (some ⟨g14, 0, none⟩) (0) (0) (cells fE ([])) = row 71 2 (some ⟨g14, 0, none⟩) (([]).length) (0) (cells fE ([])) by rfl) (.head) (.cons (.head) (.nil))))) ?_
  intro R0 k A3 c3 fs hk hR0
  obtain ⟨hk1, hk2, hk3⟩ := hk
  have hel := hk3.length_le
  rw [List.length_take] at hel
  refine cw_seq ?_
  refine cw_seq ?_
  refine cw_region ?_
  refine wl_v (ov_move rfl) rfl rfl rfl ?_
  refine wl_v (ov_move rfl) rfl rfl rfl ?_
  refine wl_v (ov_len (sliceI_spec sI23) rfl) rfl rfl rfl ?_
  refine wl_if (ov_lss rfl rfl) rfl rfl rfl (fun c22 => ?_) (fun c22 => ?_)
  ·
    refine wl_nil ?_
    refine ce_then ?_
    refine cw_true rfl ?_
    refine cw_skip ?_
    refine ce_then ?_
    refine cw_seq ?_
    refine cw_block ?_
    refine cw_seq ?_
    refine cw_region ?_
    refine wl_v (ov_move rfl) rfl rfl rfl ?_
    refine wl_v (ov_move rfl) rfl rfl rfl ?_
    refine wl_v (ov_index (k := k) (c := c2_18) sI23 tI71 rfl rfl (some_holds (q := k * 2) (holds_row (List.Mem.head _)) (by rw [cells_length fE_len]; have hlt : k < (prs (xss.length + ((xss.getD 0 []).length))).length := (by omega); omega)) (show k < (prs (xss.length + ((xss.getD 0 []).length))).length from (by omega))) rfl rfl rfl ?_
    refine wl_v (ov_loadAgg (vs := [.int .i64 (((prs (xss.length + ((xss.getD 0 []).length))).getD k (0, 0)).1), .int .i64 (((prs (xss.length + ((xss.getD 0 []).length))).getD k (0, 0)).2)]) tI71 (holds_row (List.Mem.head _)) rfl (some_holds (q := k * 2) (holds_row (List.Mem.head _)) (by rw [cells_length fE_len]; have hlt : k < (prs (xss.length + ((xss.getD 0 []).length))).length := (by omega); omega)) (cells_elem fE_len (0, 0) (show k < (prs (xss.length + ((xss.getD 0 []).length))).length from (by omega))) rfl) rfl rfl rfl ?_
    have hek := mem_prs.1 (getD_mem (xs := (prs (xss.length + (xss.getD 0 []).length))) (k := k) (0, 0) (by omega))
    refine wl_r (or_alloc tI71 rfl) rfl rfl (kt1 rfl (fun g6 => ?_))
    refine wl_r0 (or_store_blk (vs := [.int .i64 (((prs (xss.length + ((xss.getD 0 []).length))).getD k (0, 0)).1), .int .i64 (((prs (xss.length + ((xss.getD 0 []).length))).getD k (0, 0)).2)]) (cs' := [.int .i64 (((prs (xss.length + ((xss.getD 0 []).length))).getD k (0, 0)).1), .int .i64 (((prs (xss.length + ((xss.getD 0 []).length))).getD k (0, 0)).2)]) (.head) tI71 rfl rfl rfl rfl (Nat.le_of_ble_eq_true rfl) rfl) rfl rfl (kn0 ?_)
    refine wl_nil ?_
    refine ce_then ?_
    refine cw_seq ?_
    refine cw_draw mixO [] (.cons (.head) (.cons (.head) (.cons (.head) (.cons (.head) (.cons (.head) (.nil)))))) rfl ?_
    refine wg_take (i := 0) rfl (ov_fieldAddr fI71_1 some_lit rfl) rfl rfl rfl (by kernel_rfl) (by kernel_rfl) (by kernel_rfl) (by kernel_rfl) ?_
    refine wg_take (i := 1) rfl (ov_load tI3 (holds_blk (List.Mem.head _)) rfl rfl) rfl rfl rfl (by kernel_rfl) (by kernel_rfl) (by kernel_rfl) (by kernel_rfl) ?_
    refine wg_takep (i := 2) rfl (ov_move rfl) rfl rfl rfl (by kernel_rfl) (by kernel_rfl) (by kernel_rfl) rfl ?_
    refine wg_takep (i := 3) rfl (ov_len (sliceI_spec sI50) rfl) rfl rfl rfl (by kernel_rfl) (by kernel_rfl) (by kernel_rfl) rfl ?_
    refine wg_takep_if (i := 4) rfl (ov_lss rfl rfl) rfl rfl rfl (by kernel_rfl) (by kernel_rfl) (by kernel_rfl) rfl (fun c33 => ?_) (fun c33 => ?_)
    ·
      refine wg_takep (i := 5) rfl (ov_move rfl) rfl rfl rfl (by kernel_rfl) (by kernel_rfl) (by kernel_rfl) rfl ?_
      refine wg_take_not (i := 6) rfl rfl rfl rfl rfl (by kernel_rfl) (by kernel_rfl) (by kernel_rfl) (by kernel_rfl) ?_
      refine wg_take_not (i := 7) rfl rfl rfl rfl rfl (by kernel_rfl) (by kernel_rfl) (by kernel_rfl) (by kernel_rfl) ?_
      refine wg_take_not (i := 8) rfl rfl rfl rfl rfl (by kernel_rfl) (by kernel_rfl) (by kernel_rfl) (by kernel_rfl) ?_
      refine wg_take_not (i := 9) rfl rfl rfl rfl rfl (by kernel_rfl) (by kernel_rfl) (by kernel_rfl) (by kernel_rfl) ?_
      refine wg_take_not (i := 10) rfl rfl rfl rfl rfl (by kernel_rfl) (by kernel_rfl) (by kernel_rfl) (by kernel_rfl) ?_
      refine wg_take_not (i := 11) rfl rfl rfl rfl rfl (by kernel_rfl) (by kernel_rfl) (by kernel_rfl) (by kernel_rfl) ?_
      refine wg_take_notu (i := 12) rfl rfl rfl rfl (by kernel_rfl) (by kernel_rfl) (by kernel_rfl) (by kernel_rfl) ?_
      refine wg_take_notu (i := 13) rfl rfl rfl rfl (by kernel_rfl) (by kernel_rfl) (by kernel_rfl) (by kernel_rfl) ?_
      refine wg_take_notu (i := 14) rfl rfl rfl rfl (by kernel_rfl) (by kernel_rfl) (by kernel_rfl) (by kernel_rfl) ?_
      refine wg_take_notu (i := 15) rfl rfl rfl rfl (by kernel_rfl) (by kernel_rfl) (by kernel_rfl) (by kernel_rfl) ?_
      refine wg_take_notu (i := 16) rfl rfl rfl rfl (by kernel_rfl) (by kernel_rfl) (by kernel_rfl) (by kernel_rfl) ?_
      refine wg_take_notu (i := 17) rfl rfl rfl rfl (by kernel_rfl) (by kernel_rfl) (by kernel_rfl) (by kernel_rfl) ?_
      refine wg_take_notu (i := 18) rfl rfl rfl rfl (by kernel_rfl) (by kernel_rfl) (by kernel_rfl) (by kernel_rfl) ?_
      refine wg_take_notu (i := 19) rfl rfl rfl rfl (by kernel_rfl) (by kernel_rfl) (by kernel_rfl) (by kernel_rfl) ?_
      refine wg_take_notu (i := 20) rfl rfl rfl rfl (by kernel_rfl) (by kernel_rfl) (by kernel_rfl) (by kernel_rfl) ?_
      refine wg_take_notu (i := 21) rfl rfl rfl rfl (by kernel_rfl) (by kernel_rfl) (by kernel_rfl) (by kernel_rfl) ?_
      refine wg_take_notu (i := 22) rfl rfl rfl rfl (by kernel_rfl) (by kernel_rfl) (by kernel_rfl) (by kernel_rfl) ?_
      refine wg_take_notu (i := 23) rfl rfl rfl rfl (by kernel_rfl) (by kernel_rfl) (by kernel_rfl) (by kernel_rfl) ?_
      refine wg_take_notu (i := 24) rfl rfl rfl rfl (by kernel_rfl) (by kernel_rfl) (by kernel_rfl) (by kernel_rfl) ?_
      refine wg_take_not (i := 25) rfl rfl rfl rfl rfl (by kernel_rfl) (by kernel_rfl) (by kernel_rfl) (by kernel_rfl) ?_
      refine wg_takep (i := 26) rfl (ov_pick_t rfl rfl) rfl rfl rfl (by kernel_rfl) (by kernel_rfl) (by kernel_rfl) rfl ?_
      refine wg_done (by kernel_rfl) ?_
      refine ce_then ?_
      refine cw_true rfl ?_
      refine cw_region ?_
      refine wl_v (ov_fieldAddr fI25_1 some_lit rfl) rfl rfl rfl ?_
      refine wl_v (ov_load tI23 (holds_blk (List.Mem.tail _ (List.Mem.tail _ (List.Mem.head _)))) rfl rfl) rfl rfl rfl ?_
      refine wl_v (ov_loadAgg (vs := [.int .i64 (((prs (xss.length + ((xss.getD 0 []).length))).getD k (0, 0)).1), .int .i64 (((prs (xss.length + ((xss.getD 0 []).length))).getD k (0, 0)).2)]) tI71 (holds_blk (List.Mem.head _)) rfl some_lit rfl rfl) rfl rfl rfl ?_
      refine wl_r (or_buildSlice (e := 71) (size := 2) (is := [0]) (vs := [.agg #[.int .i64 (((prs (xss.length + ((xss.getD 0 []).length))).getD k (0, 0)).1), .int .i64 (((prs (xss.length + ((xss.getD 0 []).length))).getD k (0, 0)).2)]]) (cs := cells fE ([(((prs (xss.length + ((xss.getD 0 []).length))).getD k (0, 0)).1, ((prs (xss.length + ((xss.getD 0 []).length))).getD k (0, 0)).2)])) rfl rfl rfl (by decide) (fun _ => by kernel_rfl)) rfl rfl (kt1 rfl (fun g59 => ?_))
      refine wl_r (or_append (c2 := 1) sI23 tI71 rfl (by decide) rfl rfl (.tail (.tail (.tail (.tail .head)))) (holds_row (List.Mem.head _)) (by rw [cells_length fE_len]; try simp) (one_cells fE_one _) cells_append (by omega) (by omega)) rfl rfl (kt2p rfl (fun A60 c60 h60 => ?_))
      refine wl_v (ov_fieldAddr fI25_1 some_lit rfl) rfl rfl rfl ?_
      refine wl_r0 (or_store_blk (vs := [.slice A60 (fs.length + 1) (c60)]) (cs' := [.int .i64 (((xss.length + (xss.getD 0 []).length : Nat) : Int)), .slice A60 (fs.length + 1) (c60)]) (.tail (.tail (.tail (.tail .head)))) tI23 rfl rfl rfl rfl (Nat.le_of_ble_eq_true rfl) rfl) rfl rfl (kn0 ?_)
      refine wl_nil ?_
      refine ce_block ?_
      refine ce_then ?_
      refine cw_region ?_
      refine wl_v (ov_move rfl) rfl rfl rfl ?_
      refine wl_v (ov_add (r := ((k + 1 : Nat) : Int)) rfl rfl rfl (by omega)) rfl rfl rfl ?_
      refine wl_v (ov_assign rfl) rfl rfl rfl ?_
      refine wl_nil ?_
      exact fun ac_ w_ hs_ => hR0 (k + 1) A60 c60 (fs ++ ([(((prs (xss.length + ((xss.getD 0 []).length))).getD k (0, 0)).1, ((prs (xss.length + ((xss.getD 0 []).length))).getD k (0, 0)).2)])) ⟨by omega, by rw [List.length_append]; exact h60, by rw [take_succ (0, 0) (by omega)]; exact hk3.append (List.Sublist.refl _)⟩ (by omega) ac_ w_ (hs_.weaken (.cons rfl (.cons rfl (.cons rfl (.cons rfl (.cons rfl (.nil)))))) (.cons (.tail (.tail (.tail (.tail .head)))) (.consE (show blk g3 [.int .i64 (((xss.length + (xss.getD 0 []).length : Nat) : Int)), .slice A60 (fs.length + 1) (c60)] 25 = blk g3 [.int .i64 (((xss.length + (xss.getD 0 []).length : Nat) : Int)), .slice A60 ((fs ++ ([(((prs (xss.length + ((xss.getD 0 []).length))).getD k (0, 0)).1, ((prs (xss.length + ((xss.getD 0 []).length))).getD k (0, 0)).2)])).length) (c60)] 25 by rw [List.length_append]; rfl) (.head) (.consE (show row 71 2 A60 (fs.length + 1) (c60) (cells fE (fs ++ ([(((prs (xss.length + ((xss.getD 0 []).length))).getD k (0, 0)).1, ((prs (xss.length + ((xss.getD 0 []).length))).getD k (0, 0)).2)]))) = row 71 2 A60 ((fs ++ ([(((prs (xss.length + ((xss.getD 0 []).length))).getD k (0, 0)).1, ((prs (xss.length + ((xss.getD 0 []).length))).getD k (0, 0)).2)])).length) (c60) (cells fE (fs ++ ([(((prs (xss.length + ((xss.getD 0 []).length))).getD k (0, 0)).1, ((prs (xss.length + ((xss.getD 0 []).length))).getD k (0, 0)).2)]))) by rw [List.length_append]; rfl) (.head) (.cons (.tail (.tail .head)) (.nil))))))
    ·
      refine wg_takep (i := 5) rfl (ov_move rfl) rfl rfl rfl (by kernel_rfl) (by kernel_rfl) (by kernel_rfl) rfl ?_
      refine wg_take_go (i := 6) rfl rfl rfl (ov_fieldAddr fI71_0 some_lit rfl) rfl (by kernel_rfl) (by kernel_rfl) (by kernel_rfl) (by kernel_rfl) ?_
      refine wg_take_go (i := 7) rfl rfl rfl (ov_load tI3 (holds_blk (List.Mem.head _)) rfl rfl) rfl (by kernel_rfl) (by kernel_rfl) (by kernel_rfl) (by kernel_rfl) ?_
      refine wg_take_go (i := 8) rfl rfl rfl (ov_move rfl) rfl (by kernel_rfl) (by kernel_rfl) (by kernel_rfl) (by kernel_rfl) ?_
      refine wg_take_go (i := 9) rfl rfl rfl (ov_len (sliceI_spec sI50) rfl) rfl (by kernel_rfl) (by kernel_rfl) (by kernel_rfl) (by kernel_rfl) ?_
      refine wg_take_go_if (i := 10) rfl rfl rfl (ov_lss rfl rfl) rfl (by kernel_rfl) (by kernel_rfl) (by kernel_rfl) (by kernel_rfl) (fun c39 => ?_) (fun c39 => ?_)
      ·
        have hrk := hM.len_at (i := ((prs (xss.length + (xss.getD 0 []).length)).getD k (0, 0)).1.toNat) (by omega)
        refine wg_take_go (i := 11) rfl rfl rfl (ov_move rfl) rfl (by kernel_rfl) (by kernel_rfl) (by kernel_rfl) (by kernel_rfl) ?_
        refine wg_take_go (i := 12) rfl rfl rfl (ov_move rfl) rfl (by kernel_rfl) (by kernel_rfl) (by kernel_rfl) (by kernel_rfl) ?_
        refine wg_take_go (i := 13) rfl rfl rfl (ov_fieldAddr fI71_0 some_lit rfl) rfl (by kernel_rfl) (by kernel_rfl) (by kernel_rfl) (by kernel_rfl) ?_
        refine wg_take_go (i := 14) rfl rfl rfl (ov_load tI3 (holds_blk (List.Mem.head _)) rfl rfl) rfl (by kernel_rfl) (by kernel_rfl) (by kernel_rfl) (by kernel_rfl) ?_
        refine wg_take_go (i := 15) rfl rfl rfl (ov_indexg sI50 tI27 rfl rfl (some_holds (q := ((((prs (xss.length + ((xss.getD 0 []).length))).getD k (0, 0)).1).toNat) * 1) (holds_old oA) (by rw [cells_length fL_len]; have hlt : (((prs (xss.length + ((xss.getD 0 []).length))).getD k (0, 0)).1).toNat < hs.length := (by omega); omega)) (by omega) (show (((prs (xss.length + ((xss.getD 0 []).length))).getD k (0, 0)).1).toNat < xss.length from (by omega))) rfl (by kernel_rfl) (by kernel_rfl) (by kernel_rfl) (by kernel_rfl) ?_
        refine wg_take_go (i := 16) rfl rfl rfl (ov_load tI27 (holds_old oA) rfl (get_fLn fA (show (((prs (xss.length + ((xss.getD 0 []).length))).getD k (0, 0)).1).toNat < xss.length from (by omega)))) rfl (by kernel_rfl) (by kernel_rfl) (by kernel_rfl) (by kernel_rfl) ?_
        refine wg_take_go (i := 17) rfl rfl rfl (ov_fieldAddr fI71_1 some_lit rfl) rfl (by kernel_rfl) (by kernel_rfl) (by kernel_rfl) (by kernel_rfl) ?_
        refine wg_take_go (i := 18) rfl rfl rfl (ov_load tI3 (holds_blk (List.Mem.head _)) rfl rfl) rfl (by kernel_rfl) (by kernel_rfl) (by kernel_rfl) (by kernel_rfl) ?_
        refine wg_take_go (i := 19) rfl rfl rfl (ov_move rfl) rfl (by kernel_rfl) (by kernel_rfl) (by kernel_rfl) (by kernel_rfl) ?_
        refine wg_take_go (i := 20) rfl rfl rfl (ov_len (sliceI_spec sI50) rfl) rfl (by kernel_rfl) (by kernel_rfl) (by kernel_rfl) (by kernel_rfl) ?_
        refine wg_take_go (i := 21) rfl rfl rfl (ov_sub (r := (((prs (xss.length + ((xss.getD 0 []).length))).getD k (0, 0)).2) - ((xss.length : Nat) : Int)) rfl rfl rfl (by omega)) rfl (by kernel_rfl) (by kernel_rfl) (by kernel_rfl) (by kernel_rfl) ?_
        refine wg_take_go (i := 22) rfl rfl rfl (ov_indexg sI27 tI3 rfl rfl (some_holds (q := (((((prs (xss.length + ((xss.getD 0 []).length))).getD k (0, 0)).2) - ((xss.length : Nat) : Int)).toNat) * 1) (mx_at (mx_old omA) (show (((prs (xss.length + ((xss.getD 0 []).length))).getD k (0, 0)).1).toNat < xss.length from (by omega))) (by rw [cells_length fI_len]; have hlt : ((((prs (xss.length + ((xss.getD 0 []).length))).getD k (0, 0)).2) - ((xss.length : Nat) : Int)).toNat < (xss.getD ((((prs (xss.length + ((xss.getD 0 []).length))).getD k (0, 0)).1).toNat) []).length := (by omega); omega)) (by omega) (show ((((prs (xss.length + ((xss.getD 0 []).length))).getD k (0, 0)).2) - ((xss.length : Nat) : Int)).toNat < (xss.getD ((((prs (xss.length + ((xss.getD 0 []).length))).getD k (0, 0)).1).toNat) []).length from (by omega))) rfl (by kernel_rfl) (by kernel_rfl) (by kernel_rfl) (by kernel_rfl) ?_
        refine wg_take_go (i := 23) rfl rfl rfl (ov_load tI3 (mx_at (mx_old omA) (show (((prs (xss.length + ((xss.getD 0 []).length))).getD k (0, 0)).1).toNat < xss.length from (by omega))) rfl (get_fI (show ((((prs (xss.length + ((xss.getD 0 []).length))).getD k (0, 0)).2) - ((xss.length : Nat) : Int)).toNat < (xss.getD ((((prs (xss.length + ((xss.getD 0 []).length))).getD k (0, 0)).1).toNat) []).length from (by omega)))) rfl (by kernel_rfl) (by kernel_rfl) (by kernel_rfl) (by kernel_rfl) ?_
        refine wg_take_go_if (i := 24) rfl rfl rfl (ov_eql rfl rfl) rfl (by kernel_rfl) (by kernel_rfl) (by kernel_rfl) (by kernel_rfl) (fun c53 => ?_) (fun c53 => ?_)
        ·
          refine wg_take_go (i := 25) rfl rfl rfl (ov_pick_t rfl rfl) rfl (by kernel_rfl) (by kernel_rfl) (by kernel_rfl) (by kernel_rfl) ?_
          refine wg_takep (i := 26) rfl (ov_pick_f rfl rfl) rfl rfl rfl (by kernel_rfl) (by kernel_rfl) (by kernel_rfl) rfl ?_
          refine wg_done (by kernel_rfl) ?_
          refine ce_then ?_
          refine cw_true rfl ?_
          refine cw_region ?_
          refine wl_v (ov_fieldAddr fI25_1 some_lit rfl) rfl rfl rfl ?_
          refine wl_v (ov_load tI23 (holds_blk (List.Mem.tail _ (List.Mem.tail _ (List.Mem.head _)))) rfl rfl) rfl rfl rfl ?_
          refine wl_v (ov_loadAgg (vs := [.int .i64 (((prs (xss.length + ((xss.getD 0 []).length))).getD k (0, 0)).1), .int .i64 (((prs (xss.length + ((xss.getD 0 []).length))).getD k (0, 0)).2)]) tI71 (holds_blk (List.Mem.head _)) rfl some_lit rfl rfl) rfl rfl rfl ?_
          refine wl_r (or_buildSlice (e := 71) (size := 2) (is := [0]) (vs := [.agg #[.int .i64 (((prs (xss.length + ((xss.getD 0 []).length))).getD k (0, 0)).1), .int .i64 (((prs (xss.length + ((xss.getD 0 []).length))).getD k (0, 0)).2)]]) (cs := cells fE ([(((prs (xss.length + ((xss.getD 0 []).length))).getD k (0, 0)).1, ((prs (xss.length + ((xss.getD 0 []).length))).getD k (0, 0)).2)])) rfl rfl rfl (by decide) (fun _ => by kernel_rfl)) rfl rfl (kt1 rfl (fun g59 => ?_))
          refine wl_r (or_append (c2 := 1) sI23 tI71 rfl (by decide) rfl rfl (.tail (.tail (.tail (.tail .head)))) (holds_row (List.Mem.head _)) (by rw [cells_length fE_len]; try simp) (one_cells fE_one _) cells_append (by omega) (by omega)) rfl rfl (kt2p rfl (fun A60 c60 h60 => ?_))
          refine wl_v (ov_fieldAddr fI25_1 some_lit rfl) rfl rfl rfl ?_
          refine wl_r0 (or_store_blk (vs := [.slice A60 (fs.length + 1) (c60)]) (cs' := [.int .i64 (((xss.length + (xss.getD 0 []).length : Nat) : Int)), .slice A60 (fs.length + 1) (c60)]) (.tail (.tail (.tail (.tail .head)))) tI23 rfl rfl rfl rfl (Nat.le_of_ble_eq_true rfl) rfl) rfl rfl (kn0 ?_)
          refine wl_nil ?_
          refine ce_block ?_
          refine ce_then ?_
          refine cw_region ?_
          refine wl_v (ov_move rfl) rfl rfl rfl ?_
          refine wl_v (ov_add (r := ((k + 1 : Nat) : Int)) rfl rfl rfl (by omega)) rfl rfl rfl ?_
          refine wl_v (ov_assign rfl) rfl rfl rfl ?_
          refine wl_nil ?_
          exact fun ac_ w_ hs_ => hR0 (k + 1) A60 c60 (fs ++ ([(((prs (xss.length + ((xss.getD 0 []).length))).getD k (0, 0)).1, ((prs (xss.length + ((xss.getD 0 []).length))).getD k (0, 0)).2)])) ⟨by omega, by rw [List.length_append]; exact h60, by rw [take_succ (0, 0) (by omega)]; exact hk3.append (List.Sublist.refl _)⟩ (by omega) ac_ w_ (hs_.weaken (.cons rfl (.cons rfl (.cons rfl (.cons rfl (.cons rfl (.nil)))))) (.cons (.tail (.tail (.tail (.tail .head)))) (.consE (show blk g3 [.int .i64 (((xss.length + (xss.getD 0 []).length : Nat) : Int)), .slice A60 (fs.length + 1) (c60)] 25 = blk g3 [.int .i64 (((xss.length + (xss.getD 0 []).length : Nat) : Int)), .slice A60 ((fs ++ ([(((prs (xss.length + ((xss.getD 0 []).length))).getD k (0, 0)).1, ((prs (xss.length + ((xss.getD 0 []).length))).getD k (0, 0)).2)])).length) (c60)] 25 by rw [List.length_append]; rfl) (.head) (.consE (show row 71 2 A60 (fs.length + 1) (c60) (cells fE (fs ++ ([(((prs (xss.length + ((xss.getD 0 []).length))).getD k (0, 0)).1, ((prs (xss.length + ((xss.getD 0 []).length))).getD k (0, 0)).2)]))) = row 71 2 A60 ((fs ++ ([(((prs (xss.length + ((xss.getD 0 []).length))).getD k (0, 0)).1, ((prs (xss.length + ((xss.getD 0 []).length))).getD k (0, 0)).2)])).length) (c60) (cells fE (fs ++ ([(((prs (xss.length + ((xss.getD 0 []).length))).getD k (0, 0)).1, ((prs (xss.length + ((xss.getD 0 []).length))).getD k (0, 0)).2)]))) by rw [List.length_append]; rfl) (.head) (.cons (.tail (.tail .head)) (.nil))))))
        ·
          refine wg_take_go (i := 25) rfl rfl rfl (ov_pick_t rfl rfl) rfl (by kernel_rfl) (by kernel_rfl) (by kernel_rfl) (by kernel_rfl) ?_
          refine wg_takep (i := 26) rfl (ov_pick_f rfl rfl) rfl rfl rfl (by kernel_rfl) (by kernel_rfl) (by kernel_rfl) rfl ?_
          refine wg_done (by kernel_rfl) ?_
          refine ce_then ?_
          refine cw_false rfl ?_
          refine cw_skip ?_
          refine ce_block ?_
          refine ce_then ?_
          refine cw_region ?_
          refine wl_v (ov_move rfl) rfl rfl rfl ?_
          refine wl_v (ov_add (r := ((k + 1 : Nat) : Int)) rfl rfl rfl (by omega)) rfl rfl rfl ?_
          refine wl_v (ov_assign rfl) rfl rfl rfl ?_
          refine wl_nil ?_
          exact fun ac_ w_ hs_ => hR0 (k + 1) A3 c3 fs ⟨by omega, hk2, hk3.trans (by rw [take_succ (0, 0) (by omega)]; exact List.sublist_append_left _ _)⟩ (by omega) ac_ w_ (hs_.weaken (.cons rfl (.cons rfl (.cons rfl (.cons rfl (.cons rfl (.nil)))))) (.cons (.tail .head) (.cons (.tail .head) (.cons (.tail .head) (.cons (.tail .head) (.nil))))))
      ·
        refine wg_take_go (i := 11) rfl rfl rfl (ov_move rfl) rfl (by kernel_rfl) (by kernel_rfl) (by kernel_rfl) (by kernel_rfl) ?_
        refine wg_take_not (i := 12) rfl rfl rfl rfl rfl (by kernel_rfl) (by kernel_rfl) (by kernel_rfl) (by kernel_rfl) ?_
        refine wg_take_not (i := 13) rfl rfl rfl rfl rfl (by kernel_rfl) (by kernel_rfl) (by kernel_rfl) (by kernel_rfl) ?_
        refine wg_take_not (i := 14) rfl rfl rfl rfl rfl (by kernel_rfl) (by kernel_rfl) (by kernel_rfl) (by kernel_rfl) ?_
        refine wg_take_not (i := 15) rfl rfl rfl rfl rfl (by kernel_rfl) (by kernel_rfl) (by kernel_rfl) (by kernel_rfl) ?_
        refine wg_take_not (i := 16) rfl rfl rfl rfl rfl (by kernel_rfl) (by kernel_rfl) (by kernel_rfl) (by kernel_rfl) ?_
        refine wg_take_not (i := 17) rfl rfl rfl rfl rfl (by kernel_rfl) (by kernel_rfl) (by kernel_rfl) (by kernel_rfl) ?_
        refine wg_take_not (i := 18) rfl rfl rfl rfl rfl (by kernel_rfl) (by kernel_rfl) (by kernel_rfl) (by kernel_rfl) ?_
        refine wg_take_not (i := 19) rfl rfl rfl rfl rfl (by kernel_rfl) (by kernel_rfl) (by kernel_rfl) (by kernel_rfl) ?_
        refine wg_take_not (i := 20) rfl rfl rfl rfl rfl (by kernel_rfl) (by kernel_rfl) (by kernel_rfl) (by kernel_rfl) ?_
        refine wg_take_not (i := 21) rfl rfl rfl rfl rfl (by kernel_rfl) (by kernel_rfl) (by kernel_rfl) (by kernel_rfl) ?_
        refine wg_take_not (i := 22) rfl rfl rfl rfl rfl (by kernel_rfl) (by kernel_rfl) (by kernel_rfl) (by kernel_rfl) ?_
        refine wg_take_not (i := 23) rfl rfl rfl rfl rfl (by kernel_rfl) (by kernel_rfl) (by kernel_rfl) (by kernel_rfl) ?_
        refine wg_take_not (i := 24) rfl rfl rfl rfl rfl (by kernel_rfl) (by kernel_rfl) (by kernel_rfl) (by kernel_rfl) ?_
        refine wg_take_go (i := 25) rfl rfl rfl (ov_pick_f rfl rfl) rfl (by kernel_rfl) (by kernel_rfl) (by kernel_rfl) (by kernel_rfl) ?_
        refine wg_takep (i := 26) rfl (ov_pick_f rfl rfl) rfl rfl rfl (by kernel_rfl) (by kernel_rfl) (by kernel_rfl) rfl ?_
        refine wg_done (by kernel_rfl) ?_
        refine ce_then ?_
        refine cw_false rfl ?_
        refine cw_skip ?_
        refine ce_block ?_
        refine ce_then ?_
        refine cw_region ?_
        refine wl_v (ov_move rfl) rfl rfl rfl ?_
        refine wl_v (ov_add (r := ((k + 1 : Nat) : Int)) rfl rfl rfl (by omega)) rfl rfl rfl ?_
        refine wl_v (ov_assign rfl) rfl rfl rfl ?_
        refine wl_nil ?_
        exact fun ac_ w_ hs_ => hR0 (k + 1) A3 c3 fs ⟨by omega, hk2, hk3.trans (by rw [take_succ (0, 0) (by omega)]; exact List.sublist_append_left _ _)⟩ (by omega) ac_ w_ (hs_.weaken (.cons rfl (.cons rfl (.cons rfl (.cons rfl (.cons rfl (.nil)))))) (.cons (.tail .head) (.cons (.tail .head) (.cons (.tail .head) (.cons (.tail .head) (.nil))))))
  ·
    refine wl_nil ?_
    refine ce_then ?_
    refine cw_false rfl ?_
    refine cw_exit ?_
    refine ce_then_exit ?_
    refine ce_then_exit ?_
    refine ce_hit ?_
    refine ce_then ?_
    refine cw_seq ?_
    refine cw_region ?_
    refine wl_v (ov_loadAgg (vs := [.int .i64 (((xss.length + (xss.getD 0 []).length : Nat) : Int)), .slice A3 (fs.length) (c3)]) tI25 (holds_blk (List.Mem.tail _ (List.Mem.head _))) rfl some_lit rfl rfl) rfl rfl rfl ?_
    refine wl_r0 (or_store_blk (vs := [.int .i64 (((xss.length + (xss.getD 0 []).length : Nat) : Int)), .slice A3 (fs.length) (c3)]) (cs' := [.int .i64 (((xss.length + (xss.getD 0 []).length : Nat) : Int)), .slice A3 (fs.length) (c3)]) (.tail (.tail (.tail .head))) tI25 rfl rfl rfl rfl (Nat.le_of_ble_eq_true rfl) rfl) rfl rfl (kn0 ?_)
    refine wl_nil ?_
    refine ce_then ?_
    refine cw_ret ?_
    refine ce_results (v := .agg #[.int .i64 (((xss.length + (xss.getD 0 []).length : Nat) : Int)), .slice A3 (fs.length) (c3)]) (res1 rfl (rv_c rfl tI25 rfl (List.Mem.head _))) (fun w' hw => ?_)
    exact ⟨A3, c3, fs, ⟨hk2, hk3.trans (List.take_sublist _ _)⟩, rfl, ((.cons (.tail (.tail (.tail .head))) (.nil) : Keep _ _).ss hw).to_new⟩
set_option maxRecDepth 100000 in
theorem DrawBarrierOf_c (w : World) (Ar : Option Addr) (nr : Nat) (cr : Nat) (bs : List (Nat)) (hAr : At w Ar (cells fY bs)) (eAr : bs.length = nr) (lAr : nr ≤ cr) (hb : ∀ x ∈ bs, x < 256) : Calls Try.prog 9 #[.slice Ar (nr) (cr)] w (Ret fun rv w' => ∃ N A1 c1 es, (es.length ≤ c1 ∧ es.length ≤ 100 ∧ -1 ≤ N ∧ N ≤ 8) ∧ rv = .agg #[.int .i64 (N), .slice A1 (es.length) (c1)] ∧ New w w' [row 71 2 A1 (es.length) (c1) (cells fE es)]) := by
  have oAr := hAr.atB
  subst eAr
  refine fn_enter (args := [.slice Ar (bs.length) (cr)]) Try.func9 rfl Try.ntmps9 rfl (SS.start w) ?_
  refine cw_seq ?_
  refine cw_region ?_
  refine wl_r (or_alloc tI25 rfl) rfl rfl (kt1 rfl (fun g2 => ?_))
  refine wl_nil ?_
  refine ce_then ?_
  refine cw_seq ?_
  refine cw_region ?_
  refine wl_v (ov_move rfl) rfl rfl rfl ?_
  refine wl_r (or_call (fv := []) (vs := [.slice Ar (bs.length) (cr)]) (cs := []) en42 rfl rfl (call_x2 (fun w hw => newReader_c w Ar bs.length cr bs ((holds_old oAr) w hw) rfl lAr))) rfl rfl (kt2p rfl (fun g_5 n2_5 h_5 => ?_))
  refine wl_v (ov_assign rfl) rfl rfl rfl ?_
  refine wl_nil ?_
  refine ce_then ?_
  refine cw_seq ?_
  refine cw_seq ?_
  refine cw_region ?_
  refine wl_v (ov_move rfl) rfl rfl rfl ?_
  refine wl_r (or_call (fv := []) (vs := [elp (some ⟨g_5, 0, none⟩) (0), .int .i64 (3)]) (cs := []) en43 rfl rfl (call_o (.cons (.head) (.cons (.head) (.nil))) (fun w hw => pick_c w _ _ _ 3 g_5 Ar n2_5 cr (bs.take n2_5) 0 (holds_takeC (k := n2_5) fY_len (holds_old oAr)) (by rw [List.length_take]; omega) (by omega) ⟨by omega, fun x hx => hb x (List.mem_of_mem_take hx), by omega⟩ (by first | assumption | omega | (simp; omega)) hw))) rfl rfl (kt1p rfl (fun v_7 h_7 => ?_))
  refine wl_if (ov_eql rfl rfl) rfl rfl rfl (fun c8 => ?_) (fun c8 => ?_)
  ·
    refine wl_nil ?_
    refine ce_then ?_
    refine cw_true rfl ?_
    refine cw_seq ?_
    refine cw_region ?_
    refine wl_v (ov_move rfl) rfl rfl rfl ?_
    refine wl_v (ov_move rfl) rfl rfl rfl ?_
    refine wl_r (or_call (fv := []) (vs := [elp (some ⟨g_5, 0, none⟩) (0), .int .i64 (4)]) (cs := []) en43 rfl rfl (call_o (.cons (.head) (.cons (.head) (.nil))) (fun w hw => pick_c w _ _ _ 4 g_5 Ar n2_5 cr (bs.take n2_5) (0 + 1) (holds_takeC (k := n2_5) fY_len (holds_old oAr)) (by rw [List.length_take]; omega) (by omega) ⟨by omega, fun x hx => hb x (List.mem_of_mem_take hx), by omega⟩ (by first | assumption | omega | (simp; omega)) hw))) rfl rfl (kt1p rfl (fun v_11 h_11 => ?_))
    have b_11 : 0 ≤ v_11 ∧ v_11 ≤ 3 := (by simp at h_11; omega)
    obtain ⟨a0, rfl⟩ := Int.eq_ofNat_of_zero_le (show 0 ≤ v_11 from b_11.1)
    refine wl_v (ov_add (r := ((1 + a0 : Nat) : Int)) rfl rfl rfl (by omega)) rfl rfl rfl ?_
    refine wl_v (ov_move rfl) rfl rfl rfl ?_
    refine wl_r (or_call (fv := []) (vs := [elp (some ⟨g_5, 0, none⟩) (0), .int .i64 (2)]) (cs := []) en43 rfl rfl (call_o (.cons (.head) (.cons (.head) (.nil))) (fun w hw => pick_c w _ _ _ 2 g_5 Ar n2_5 cr (bs.take n2_5) ((0 + 1) + 1) (holds_takeC (k := n2_5) fY_len (holds_old oAr)) (by rw [List.length_take]; omega) (by omega) ⟨by omega, fun x hx => hb x (List.mem_of_mem_take hx), by omega⟩ (by first | assumption | omega | (simp; omega)) hw))) rfl rfl (kt1p rfl (fun v_14 h_14 => ?_))
    have b_14 : 0 ≤ v_14 ∧ v_14 ≤ 1 := (by simp at h_14; omega)
    obtain ⟨b0, rfl⟩ := Int.eq_ofNat_of_zero_le (show 0 ≤ v_14 from b_14.1)
    refine wl_v (ov_add (r := ((1 + b0 : Nat) : Int)) rfl rfl rfl (by omega)) rfl rfl rfl ?_
    refine wl_r (or_call (fv := []) (vs := [elp (some ⟨g_5, 0, none⟩) (0), .int .i64 (((1 + a0 : Nat) : Int)), .int .i64 (((1 + b0 : Nat) : Int))]) (cs := []) en46 rfl rfl (call_o (.cons (.head) (.cons (.head) (.nil))) (fun w hw => aMatrix_c w _ _ _ (1 + a0) (1 + b0) g_5 Ar n2_5 cr (bs.take n2_5) (((0 + 1) + 1) + 1) (holds_takeC (k := n2_5) fY_len (holds_old oAr)) (by rw [List.length_take]; omega) (by omega) ⟨by omega, fun x hx => hb x (List.mem_of_mem_take hx), by omega⟩ (by omega) hw))) rfl rfl (kt5p rfl (fun A2_16 c2_16 hs2_16 m_16 q_16 h_16 => ?_))
    refine ct_fact (nest_facts (List.Mem.tail _ (List.Mem.head _))) (fun hnfns_16_1 => ?_)
    have hnfns_16_1l := hnfns_16_1.1
    refine wl_r (or_call (fv := []) (vs := [.slice A2_16 (m_16.length) (c2_16)]) (cs := []) en45 rfl rfl (call_x3 (fun w hw => splitG_c w A2_16 m_16.length c2_16 hs2_16 m_16 (1 + b0) ((holds_row (List.Mem.head _)) w hw) rfl h_16.1.1 hnfns_16_1 ((mx_nest (List.Mem.tail _ (List.Mem.head _))) w hw) h_16.1.2.2 (by omega)))) rfl rfl (kt3p rfl (fun A2_17 c2_17 es_17 h_17 => ?_))
    have hc17 := h_16.1.2.2.len_at (i := 0) (by omega)
    have hl17 := h_17.2.length_le
    have hps17 := prs_small (m_16.length + (m_16.getD 0 []).length) (by omega)
    have hcl17 := compl_len (m_16.length + (m_16.getD 0 []).length) es_17 (prs (m_16.length + (m_16.getD 0 []).length)).length
    refine wl_r (or_call (fv := []) (vs := [.agg #[.int .i64 (((m_16.length + (m_16.getD 0 []).length : Nat) : Int)), .slice A2_17 (es_17.length) (c2_17)]]) (cs := []) en44 rfl rfl (call_x2 (fun w hw => complementS_c w (m_16.length + (m_16.getD 0 []).length) A2_17 es_17.length c2_17 es_17 ((holds_row (List.Mem.head _)) w hw) rfl h_17.1 (by omega) (by omega)))) rfl rfl (kt2p rfl (fun A2_18 c2_18 h_18 => ?_))
    refine wl_r0 (or_store_blk (vs := [.int .i64 ((((m_16.length + (m_16.getD 0 []).length) : Nat) : Int)), .slice A2_18 ((compl (m_16.length + (m_16.getD 0 []).length) es_17 (prs (m_16.length + (m_16.getD 0 []).length)).length).length) (c2_18)]) (cs' := [.int .i64 ((((m_16.length + (m_16.getD 0 []).length) : Nat) : Int)), .slice A2_18 ((compl (m_16.length + (m_16.getD 0 []).length) es_17 (prs (m_16.length + (m_16.getD 0 []).length)).length).length) (c2_18)]) (.tail (.tail (.tail (.tail (.tail .head))))) tI25 rfl rfl rfl rfl (Nat.le_of_ble_eq_true rfl) rfl) rfl rfl (kn0 ?_)
    refine wl_nil ?_
    refine ce_then ?_
    refine cw_ret ?_
    refine ce_then_ret ?_
    refine ce_results (v := .agg #[.int .i64 ((((m_16.length + (m_16.getD 0 []).length) : Nat) : Int)), .slice A2_18 ((compl (m_16.length + (m_16.getD 0 []).length) es_17 (prs (m_16.length + (m_16.getD 0 []).length)).length).length) (c2_18)]) (res1 rfl (rv_c rfl tI25 rfl (List.Mem.head _))) (fun w' hw => ?_)
    exact ⟨((m_16.length + (m_16.getD 0 []).length : Nat) : Int), A2_18, c2_18, compl (m_16.length + (m_16.getD 0 []).length) es_17 (prs (m_16.length + (m_16.getD 0 []).length)).length, ⟨h_18, by omega, by omega, by omega⟩, rfl, ((.cons (.tail .head) (.nil) : Keep _ _).ss hw).to_new⟩
  ·
    refine wl_nil ?_
    refine ce_then ?_
    refine cw_false rfl ?_
    refine cw_skip ?_
    refine ce_then ?_
    refine cw_seq ?_
    refine cw_region ?_
    refine wl_v (ov_move rfl) rfl rfl rfl ?_
    refine wl_r (or_call (fv := []) (vs := [elp (some ⟨g_5, 0, none⟩) (0)]) (cs := []) en47 rfl rfl (call_o (.cons (.head) (.cons (.head) (.nil))) (fun w hw => someGraph_c w _ _ _ g_5 Ar n2_5 cr (bs.take n2_5) (0 + 1) (holds_takeC (k := n2_5) fY_len (holds_old oAr)) (by rw [List.length_take]; omega) (by omega) ⟨by omega, fun x hx => hb x (List.mem_of_mem_take hx), by omega⟩ hw))) rfl rfl (kt5p rfl (fun N_20 A2_20 c2_20 es_20 q_20 h_20 => ?_))
    refine wl_r0 (or_store_blk (vs := [.int .i64 (N_20), .slice A2_20 (es_20.length) (c2_20)]) (cs' := [.int .i64 (N_20), .slice A2_20 (es_20.length) (c2_20)]) (.tail (.tail .head)) tI25 rfl rfl rfl rfl (Nat.le_of_ble_eq_true rfl) rfl) rfl rfl (kn0 ?_)
    refine wl_nil ?_
    refine ce_then ?_
    refine cw_ret ?_
    refine ce_results (v := .agg #[.int .i64 (N_20), .slice A2_20 (es_20.length) (c2_20)]) (res1 rfl (rv_c rfl tI25 rfl (List.Mem.head _))) (fun w' hw => ?_)
    exact ⟨N_20, A2_20, c2_20, es_20, ⟨h_20.1.1, h_20.1.2.1, h_20.1.2.2.1, h_20.1.2.2.2⟩, rfl, ((.cons (.tail .head) (.nil) : Keep _ _).ss hw).to_new⟩
end Go.Proofs.Ythbfgkeoojghoaa.W41
