/- Walks of functions of the given program: each returns what its Lean function says and leaves the memory that was there as it was. Conditions: those of each theorem. -/
import Derived.Test.YtfjgfocjogfodaaSm
import Derived.Test.YtfjgfocjogfodaaProg
import Derived.Test.YtfjgfocjogfodaaPl
import Derived.Test.YtfjgfocjogfodaaPo
import Derived.Test.YtfjgfocjogfodaaPd
import Derived.Test.YtfjgfocjogfodaaPe
import Derived.Test.YtfjgfocjogfodaaPh
import Derived.Test.YtfjgfocjogfodaaPm
import Derived.Test.YtfjgfocjogfodaaPc
import Derived.Test.YtfjgfocjogfodaaPs
import Derived.Test.YtfjgfocjogfodaaPt
import Derived.Test.YtfjgfocjogfodaaPu
import Derived.Test.YtfjgfocjogfodaaPv
import Derived.Test.YtfjgfocjogfodaaPw
import Derived.Test.YtfjgfocjogfodaaT
import Derived.Test.YtfjgfocjogfodaaW1
import Derived.Test.YtfjgfocjogfodaaW5
import Derived.Test.YtfjgfocjogfodaaW6
import Derived.Test.YtfjgfocjogfodaaW11
import Derived.KernelRfl
namespace Go.Proofs.Ytfjgfocjogfodaa.W18
open Go.Sx Go.RowKit Go.Proofs.Ytfjgfocjogfodaa.T Go.Proofs.Ytfjgfocjogfodaa.W1 Go.Proofs.Ytfjgfocjogfodaa.W5 Go.Proofs.Ytfjgfocjogfodaa.W6 Go.Proofs.Ytfjgfocjogfodaa.W11
open Go.Plain
set_option linter.unusedVariables false
set_option maxRecDepth 100000 in
theorem addEdge_c (w : World) (m : Nat) (A : Option Addr) (n : Nat) (c : Nat) (es : List (Int × Int)) (a : Int) (b : Int) (hA : At w A (cells fE es)) (eA : es.length = n) (lA : n ≤ c) (hs : es.length ≤ 1000) (hab : a < b) (hb : ∀ x ∈ es, below x (a, b)) : Calls Try.prog 128 #[.agg #[.int .i64 (((m : Nat) : Int)), .slice A (n) (c)], .int .i64 (a), .int .i64 (b)] w (Ret fun rv w' => ∃ A2 c2, (n + 1 ≤ c2) ∧ rv = .agg #[.int .i64 (((m : Nat) : Int)), .slice A2 (n + 1) (c2)] ∧ New w w' [row 43 2 A2 (n + 1) (c2) (cells fE (es ++ [(a, b)]))]) := by
  have oA := hA.atB
  subst eA
  have hmn : min a b = a := by omega
  have hmx : max a b = b := by omega
  refine fn_enter (args := [.agg #[.int .i64 (((m : Nat) : Int)), .slice A (es.length) (c)], .int .i64 (a), .int .i64 (b)]) Try.func128 rfl Try.ntmps128 rfl (SS.start w) ?_
  refine cw_seq ?_
  refine cw_region ?_
  refine wl_r (or_box rfl rfl) rfl rfl (kt1 rfl (fun g3 => ?_))
  refine wl_r (or_alloc tI25 rfl) rfl rfl (kt1 rfl (fun g6 => ?_))
  refine wl_nil ?_
  refine ce_then ?_
  refine cw_seq ?_
  refine cw_region ?_
  refine wl_v (ov_move rfl) rfl rfl rfl ?_
  refine wl_v (ov_move rfl) rfl rfl rfl ?_
  refine wl_v (ov_min (r := min a b) rfl rfl (by first | omega | (split <;> omega))) rfl rfl rfl ?_
  refine wl_v (ov_move rfl) rfl rfl rfl ?_
  refine wl_v (ov_move rfl) rfl rfl rfl ?_
  refine wl_v (ov_max (r := max a b) rfl rfl (by first | omega | (split <;> omega))) rfl rfl rfl ?_
  refine wl_v (ov_build (is := [0, 1]) (vs := [.int .i64 (min a b), .int .i64 (max a b)]) (v := .agg #[.int .i64 (min a b), .int .i64 (max a b)]) rfl rfl (fun _ => by kernel_rfl)) rfl rfl rfl ?_
  refine wl_r (or_alloc tI43 rfl) rfl rfl (kt1 rfl (fun g7 => ?_))
  refine wl_r0 (or_store_blk (vs := [.int .i64 (min a b), .int .i64 (max a b)]) (cs' := [.int .i64 (min a b), .int .i64 (max a b)]) (.head) tI43 rfl rfl rfl rfl (Nat.le_of_ble_eq_true rfl) rfl) rfl rfl (kn0 ?_)
  refine wl_nil ?_
  refine ce_then ?_
  refine cw_seq ?_
  refine cw_region ?_
  refine wl_v (ov_assign rfl) rfl rfl rfl ?_
  refine wl_nil ?_
  refine ce_then ?_
  refine cw_seq ?_
  refine cw_block ?_
  refine cw_loop1 (fun (k : Nat) => [(3, elp (some ⟨g3, 0, none⟩) (0)), (6, elp (some ⟨g6, 0, none⟩) (0)), (7, elp (some ⟨g7, 0, none⟩) (0)), (8, .int .i64 (((k : Nat) : Int)))]) (fun (k : Nat) => [blk g7 [.int .i64 (min a b), .int .i64 (max a b)] 43, blk g6 [.int .i64 (0), .slice none (0) (0)] 25, blk g3 [.int .i64 (((m : Nat) : Int)), .slice A (es.length) (c)] 25]) (fun (k : Nat) => k ≤ es.length) (fun (k : Nat) => es.length - k) 0 (by omega) (.cons rfl (.cons rfl (.cons rfl (.cons (congrArg (fun z => some (Value.int .i64 z)) (show 0 = ((0 : Nat) : Int) by first | omega | rfl | (simp; done))) (.nil))))) (.cons (.head) (.cons (.head) (.cons (.head) (.nil)))) ?_
  intro R0 k hk hR0
  refine cw_seq ?_
  refine cw_seq ?_
  refine cw_draw mixO [] (.cons (.head) (.cons (.head) (.cons (.head) (.nil)))) rfl ?_
  refine wg_takep (i := 0) rfl (ov_move rfl) rfl rfl rfl (by kernel_rfl) (by kernel_rfl) (by kernel_rfl) rfl ?_
  refine wg_take (i := 1) rfl (ov_fieldAddr fI25_1 some_lit rfl) rfl rfl rfl (by kernel_rfl) (by kernel_rfl) (by kernel_rfl) (by kernel_rfl) ?_
  refine wg_take (i := 2) rfl (ov_load tI23 (holds_blk (List.Mem.tail _ (List.Mem.tail _ (List.Mem.head _)))) rfl rfl) rfl rfl rfl (by kernel_rfl) (by kernel_rfl) (by kernel_rfl) (by kernel_rfl) ?_
  refine wg_takep (i := 3) rfl (ov_len (sliceI_spec sI23) rfl) rfl rfl rfl (by kernel_rfl) (by kernel_rfl) (by kernel_rfl) rfl ?_
  refine wg_takep_if (i := 4) rfl (ov_lss rfl rfl) rfl rfl rfl (by kernel_rfl) (by kernel_rfl) (by kernel_rfl) rfl (fun c21 => ?_) (fun c21 => ?_)
  ·
    refine wg_takep (i := 5) rfl (ov_move rfl) rfl rfl rfl (by kernel_rfl) (by kernel_rfl) (by kernel_rfl) rfl ?_
    refine wg_take_go (i := 6) rfl rfl rfl (ov_fieldAddr fI25_1 some_lit rfl) rfl (by kernel_rfl) (by kernel_rfl) (by kernel_rfl) (by kernel_rfl) ?_
    refine wg_take_go (i := 7) rfl rfl rfl (ov_load tI23 (holds_blk (List.Mem.tail _ (List.Mem.tail _ (List.Mem.head _)))) rfl rfl) rfl (by kernel_rfl) (by kernel_rfl) (by kernel_rfl) (by kernel_rfl) ?_
    refine wg_take_go (i := 8) rfl rfl rfl (ov_move rfl) rfl (by kernel_rfl) (by kernel_rfl) (by kernel_rfl) (by kernel_rfl) ?_
    refine wg_take_go (i := 9) rfl rfl rfl (ov_index (k := k) (c := c) sI23 tI43 rfl rfl (some_holds (q := k * 2) (holds_old oA) (by rw [cells_length fE_len]; have hlt : k < es.length := (by omega); omega)) (show k < es.length from (by omega))) rfl (by kernel_rfl) (by kernel_rfl) (by kernel_rfl) (by kernel_rfl) ?_
    refine wg_take_go (i := 10) rfl rfl rfl (ov_loadAgg (vs := [.int .i64 ((es.getD k (0, 0)).1), .int .i64 ((es.getD k (0, 0)).2)]) tI43 (holds_old oA) rfl (some_holds (q := k * 2) (holds_old oA) (by rw [cells_length fE_len]; have hlt : k < es.length := (by omega); omega)) (cells_elem fE_len (0, 0) (show k < es.length from (by omega))) rfl) rfl (by kernel_rfl) (by kernel_rfl) (by kernel_rfl) (by kernel_rfl) ?_
    refine wg_take_go (i := 11) rfl rfl rfl (ov_loadAgg (vs := [.int .i64 (min a b), .int .i64 (max a b)]) tI43 (holds_blk (List.Mem.head _)) rfl some_lit rfl rfl) rfl (by kernel_rfl) (by kernel_rfl) (by kernel_rfl) (by kernel_rfl) ?_
    refine wg_one (i := 12) (by kernel_rfl) ?_
    refine go_rg rfl rfl rfl rfl (or_call (fv := []) (vs := [.agg #[.int .i64 ((es.getD k (0, 0)).1), .int .i64 ((es.getD k (0, 0)).2)], .agg #[.int .i64 (min a b), .int .i64 (max a b)]]) (cs := []) en96 rfl rfl (call_v (fun w hw => edgeBelow_c w ((es.getD k (0, 0)).1) ((es.getD k (0, 0)).2) (min a b) (max a b) ))) (kt_if rfl (fun c29 => ?_) (fun c29 => ?_))
    ·
      refine gk (.cons (.head) (.cons (.head) (.cons (.head) (.nil)))) ?_
      refine wg_takep (i := 13) rfl (ov_pick_t rfl rfl) rfl rfl rfl (by kernel_rfl) (by kernel_rfl) (by kernel_rfl) rfl ?_
      refine wg_done (by kernel_rfl) ?_
      refine ce_then ?_
      refine cw_true rfl ?_
      refine cw_skip ?_
      refine ce_then ?_
      refine cw_block ?_
      refine cw_region ?_
      refine wl_v (ov_move rfl) rfl rfl rfl ?_
      refine wl_v (ov_add (r := ((k + 1 : Nat) : Int)) rfl rfl rfl (by omega)) rfl rfl rfl ?_
      refine wl_v (ov_assign rfl) rfl rfl rfl ?_
      refine wl_nil ?_
      refine ce_block ?_
      exact fun ac_ w_ hs_ => hR0 (k + 1) (by omega) (by omega) ac_ w_ (hs_.weaken (.cons rfl (.cons rfl (.cons rfl (.cons rfl (.nil))))) (.cons (.head) (.cons (.head) (.cons (.head) (.nil)))))
    ·
      exact absurd (by rw [hmn, hmx]; exact hb _ (getD_mem (xs := es) (k := k) (0, 0) (by omega))) c29
  ·
    refine wg_takep (i := 5) rfl (ov_move rfl) rfl rfl rfl (by kernel_rfl) (by kernel_rfl) (by kernel_rfl) rfl ?_
    refine wg_take_not (i := 6) rfl rfl rfl rfl rfl (by kernel_rfl) (by kernel_rfl) (by kernel_rfl) (by kernel_rfl) ?_
    refine wg_take_not (i := 7) rfl rfl rfl rfl rfl (by kernel_rfl) (by kernel_rfl) (by kernel_rfl) (by kernel_rfl) ?_
    refine wg_take_not (i := 8) rfl rfl rfl rfl rfl (by kernel_rfl) (by kernel_rfl) (by kernel_rfl) (by kernel_rfl) ?_
    refine wg_take_not (i := 9) rfl rfl rfl rfl rfl (by kernel_rfl) (by kernel_rfl) (by kernel_rfl) (by kernel_rfl) ?_
    refine wg_take_not (i := 10) rfl rfl rfl rfl rfl (by kernel_rfl) (by kernel_rfl) (by kernel_rfl) (by kernel_rfl) ?_
    refine wg_take_not (i := 11) rfl rfl rfl rfl rfl (by kernel_rfl) (by kernel_rfl) (by kernel_rfl) (by kernel_rfl) ?_
    refine wg_take_not (i := 12) rfl rfl rfl rfl rfl (by kernel_rfl) (by kernel_rfl) (by kernel_rfl) (by kernel_rfl) ?_
    refine wg_takep (i := 13) rfl (ov_pick_f rfl rfl) rfl rfl rfl (by kernel_rfl) (by kernel_rfl) (by kernel_rfl) rfl ?_
    refine wg_done (by kernel_rfl) ?_
    refine ce_then ?_
    refine cw_false rfl ?_
    refine cw_exit ?_
    refine ce_then_exit ?_
    refine ce_then_exit ?_
    refine ce_hit ?_
    refine ce_then ?_
    refine cw_seq ?_
    refine cw_region ?_
    refine wl_r (or_buildSlice (e := 43) (size := 2) (is := []) (vs := []) (cs := cells fE ([])) rfl rfl rfl (by decide) (fun _ => by kernel_rfl)) rfl rfl (kt1 rfl (fun g33 => ?_))
    refine wl_v (ov_fieldAddr fI25_1 some_lit rfl) rfl rfl rfl ?_
    refine wl_v (ov_load tI23 (holds_blk (List.Mem.tail _ (List.Mem.tail _ (List.Mem.tail _ (List.Mem.head _))))) rfl rfl) rfl rfl rfl ?_
    refine wl_v (ov_move rfl) rfl rfl rfl ?_
    refine wl_v (ov_slice_h (h := k) sI23 tI43 rfl rfl (by omega)) rfl rfl rfl ?_
    refine wl_r (or_append (c2 := c) sI23 tI43 rfl (by decide) rfl rfl (.head) (holds_takeC (k := k) fE_len (holds_old oA)) ((by rw [cells_length fE_len, List.length_take]; omega)) (one_cells fE_one _) cells_append (by omega) (by omega)) rfl rfl (kt2p rfl (fun A38 c38 h38 => ?_))
    refine wl_v (ov_assign rfl) rfl rfl rfl ?_
    refine wl_nil ?_
    refine ce_then ?_
    refine cw_seq ?_
    refine cw_draw mixO [12] (.cons (.tail .head) (.cons (.tail .head) (.cons (.tail .head) (.nil)))) rfl ?_
    refine wg_take (i := 0) rfl (ov_fieldAddr fI25_0 some_lit rfl) rfl rfl rfl (by kernel_rfl) (by kernel_rfl) (by kernel_rfl) (by kernel_rfl) ?_
    refine wg_take (i := 1) rfl (ov_load tI3 (holds_blk (List.Mem.tail _ (List.Mem.tail _ (List.Mem.head _)))) rfl rfl) rfl rfl rfl (by kernel_rfl) (by kernel_rfl) (by kernel_rfl) (by kernel_rfl) ?_
    refine wg_takep (i := 2) rfl (ov_move rfl) rfl rfl rfl (by kernel_rfl) (by kernel_rfl) (by kernel_rfl) rfl ?_
    refine wg_take (i := 3) rfl (ov_loadAgg (vs := [.int .i64 (min a b), .int .i64 (max a b)]) tI43 (holds_blk (List.Mem.head _)) rfl some_lit rfl rfl) rfl rfl rfl (by kernel_rfl) (by kernel_rfl) (by kernel_rfl) (by kernel_rfl) ?_
    refine wg_take (i := 6) rfl (ov_fieldAddr fI25_1 some_lit rfl) rfl rfl rfl (by kernel_rfl) (by kernel_rfl) (by kernel_rfl) (by kernel_rfl) ?_
    refine wg_take (i := 7) rfl (ov_load tI23 (holds_blk (List.Mem.tail _ (List.Mem.tail _ (List.Mem.head _)))) rfl rfl) rfl rfl rfl (by kernel_rfl) (by kernel_rfl) (by kernel_rfl) (by kernel_rfl) ?_
    refine wg_takep (i := 8) rfl (ov_move rfl) rfl rfl rfl (by kernel_rfl) (by kernel_rfl) (by kernel_rfl) rfl ?_
    refine wg_takep (i := 9) rfl (ov_slice_l (l := k) sI23 tI43 rfl rfl (by omega)) rfl rfl rfl (by kernel_rfl) (by kernel_rfl) (by kernel_rfl) rfl ?_
    refine wg_one (i := 4) (by kernel_rfl) ?_
    refine go_r rfl rfl rfl rfl (or_buildSlice (e := 43) (size := 2) (is := [0]) (vs := [.agg #[.int .i64 (min a b), .int .i64 (max a b)]]) (cs := cells fE ([(min a b, max a b)])) rfl rfl rfl (by decide) (fun _ => by kernel_rfl)) (kt1 rfl (fun g43 => ?_))
    refine gk (.cons (.tail (.tail .head)) (.cons (.tail (.tail .head)) (.cons (.tail (.tail .head)) (.nil)))) ?_
    refine wg_one (i := 5) (by kernel_rfl) ?_
    refine go_r rfl rfl rfl rfl (or_append (c2 := 1) sI23 tI43 rfl (by decide) rfl rfl (.tail .head) (holds_row (List.Mem.head _)) (by rw [cells_length fE_len]; try simp) (one_cells fE_one _) cells_append (by omega) (by omega)) (kt2p rfl (fun A44 c44 h44 => ?_))
    refine gk (.cons (.tail (.tail .head)) (.cons (.tail (.tail .head)) (.cons (.tail (.tail .head)) (.nil)))) ?_
    refine wg_one (i := 10) (by kernel_rfl) ?_
    refine go_r rfl rfl rfl rfl (or_append (c2 := c - k) sI23 tI43 rfl (by decide) rfl rfl (.head) (holds_dropC (l := k) fE_len (holds_old oA) (by first | exact lA | omega)) ((by rw [cells_length fE_len, List.length_drop])) (one_cells fE_one _) cells_append (by omega) (by omega)) (kt2p rfl (fun A49 c49 h49 => ?_))
    refine gk (.cons (.tail (.tail .head)) (.cons (.tail (.tail .head)) (.cons (.tail (.tail .head)) (.nil)))) ?_
    refine wg_takep (i := 11) rfl (ov_build (is := [0, 1]) (vs := [.int .i64 (((m : Nat) : Int)), .slice A49 (((0 + k) + 1) + (es.length - k)) (c49)]) (v := .agg #[.int .i64 (((m : Nat) : Int)), .slice A49 (((0 + k) + 1) + (es.length - k)) (c49)]) rfl rfl (fun _ => by kernel_rfl)) rfl rfl rfl (by kernel_rfl) (by kernel_rfl) (by kernel_rfl) rfl ?_
    refine wg_one (i := 12) (by kernel_rfl) ?_
    refine go_late0 rfl rfl rfl rfl (or_store_blk (vs := [.int .i64 (((m : Nat) : Int)), .slice A49 (((0 + k) + 1) + (es.length - k)) (c49)]) (cs' := [.int .i64 (((m : Nat) : Int)), .slice A49 (((0 + k) + 1) + (es.length - k)) (c49)]) (.tail (.tail (.tail .head))) tI25 rfl rfl rfl rfl (Nat.le_of_ble_eq_true rfl) rfl) (kn0 ?_)
    refine wa_done (by kernel_rfl) ?_
    refine ce_then ?_
    refine cw_ret ?_
    refine ce_results (v := .agg #[.int .i64 (((m : Nat) : Int)), .slice A49 (((0 + k) + 1) + (es.length - k)) (c49)]) (res1 rfl (rv_c rfl tI25 rfl (List.Mem.head _))) (fun w' hw => ?_)
    exact ⟨A49, c49, (by omega), (by rw [show 0 + k + 1 + (es.length - k) = es.length + 1 from by omega]), ((.consE (show row 43 2 A49 (((0 + k) + 1) + (es.length - k)) (c49) (cells fE (((([]) ++ (es.take k)) ++ ([(min a b, max a b)])) ++ (es.drop k))) = row 43 2 A49 (es.length + 1) (c49) (cells fE (es ++ [(a, b)])) by rw [show 0 + k + 1 + (es.length - k) = es.length + 1 from by omega, List.take_of_length_le (show es.length ≤ k by omega), List.drop_eq_nil_of_le (show es.length ≤ k by omega), List.append_nil, hmn, hmx]; rfl) (.tail .head) (.nil) : Keep _ _).ss hw).to_new⟩
set_option maxRecDepth 100000 in
theorem search_c (w w0 : World) (Bd : Nat) (F : List Ent) (Al : Option Addr) (nl : Nat) (cl : Nat) (ls : List (Int)) (Ae : Option Addr) (ne : Nat) (ce : Nat) (es : List (Int × Int)) (k : Nat) (Ag : Option Addr) (ng : Nat) (kg : Nat) (cg : Nat) (ch : List Ed) (m : Nat) (hAl : Holds (SS w0 Bd F) Al (cells fI ls)) (eAl : ls.length = nl) (lAl : nl ≤ cl) (hAe : Holds (SS w0 Bd F) Ae (cells fE es)) (eAe : es.length = ne) (lAe : ne ≤ ce) (lg : ng ≤ kg) (eg : ch.length = ng) (hl : ls.length = m ∧ m ≤ 7 ∧ es.length ≤ 21 ∧ k ≤ es.length ∧ ng ≤ k) (hes : ∀ e ∈ es, OkE m e) (hso : es.Pairwise below) (hls : ∀ x ∈ ls, 0 ≤ x ∧ x ≤ 1000) (hch : ∀ x ∈ ch, ∀ e ∈ es.drop k, below x e) (hss : SS w0 Bd ((row 43 2 Ag (ng) (cg) (cells fE ch)) :: F) w) : Calls Try.prog 114 #[.agg #[.int .i64 (((m : Nat) : Int)), .slice Ag (ng) (kg)], .slice Al (nl) (cl), .slice Ae (ne) (ce), .int .i64 (((k : Nat) : Int))] w (Ret fun rv w' => ∃ A2 c2 hs, ((allR (es.drop k) ls ch).length ≤ c2) ∧ rv = .slice A2 ((allR (es.drop k) ls ch).length) (c2) ∧ SS w0 Bd ((row 25 2 A2 ((allR (es.drop k) ls ch).length) (c2) (cells fG (gsOf m hs))) :: (nest 43 2 fE hs (allR (es.drop k) ls ch)) :: F) w') := by
  subst eAl
  subst eAe
  have hsm : Small ls := ⟨by omega, fun x hx => by have := hls x hx; omega⟩
  have hbd1 := allR_bd (es := es.drop (k + 1)) (by rw [List.length_drop]; omega)
  have hbd0 := allR_bd (es := es.drop k) (by rw [List.length_drop]; omega)
  refine fn_enter (args := [.agg #[.int .i64 (((m : Nat) : Int)), .slice Ag (ng) (kg)], .slice Al (ls.length) (cl), .slice Ae (es.length) (ce), .int .i64 (((k : Nat) : Int))]) Try.func114 rfl Try.ntmps114 rfl hss ?_
  refine cw_seq ?_
  refine cw_region ?_
  refine wl_r (or_box rfl rfl) rfl rfl (kt1 rfl (fun g4 => ?_))
  refine wl_v (ov_assign rfl) rfl rfl rfl ?_
  refine wl_nil ?_
  refine ce_then ?_
  refine cw_seq ?_
  refine cw_seq ?_
  refine cw_region ?_
  refine wl_v (ov_move rfl) rfl rfl rfl ?_
  refine wl_v (ov_move rfl) rfl rfl rfl ?_
  refine wl_v (ov_len (sliceI_spec sI23) rfl) rfl rfl rfl ?_
  refine wl_if (ov_eql rfl rfl) rfl rfl rfl (fun c15 => ?_) (fun c15 => ?_)
  ·
    refine wl_nil ?_
    refine ce_then ?_
    refine cw_true rfl ?_
    refine cw_seq ?_
    refine cw_seq ?_
    refine cw_region ?_
    refine wl_v (ov_move rfl) rfl rfl rfl ?_
    refine wl_r (or_call (fv := []) (vs := [.slice Al (ls.length) (cl)]) (cs := []) en140 rfl rfl (call_v (fun w hw => sum_c w Al ls.length cl ls ((Holds.keepF hAl ((.drop (.drop .refl)))) w hw) rfl lAl hsm))) rfl rfl (kt0 rfl ?_)
    refine wl_if (ov_eql rfl rfl) rfl rfl rfl (fun c18 => ?_) (fun c18 => ?_)
    ·
      have hz : allR (es.drop k) ls ch = [ch] := (allR_end (by omega) ls ch).trans (if_pos ((total_zero hls).1 (by omega)))
      refine wl_nil ?_
      refine ce_then ?_
      refine cw_true rfl ?_
      refine cw_seq ?_
      refine cw_region ?_
      refine wl_v (ov_loadAgg (vs := [.int .i64 (((m : Nat) : Int)), .slice Ag (ng) (kg)]) tI25 (holds_blk (List.Mem.head _)) rfl some_lit rfl rfl) rfl rfl rfl ?_
      refine wl_r (or_buildSlice (e := 25) (size := 2) (is := [0]) (vs := [.agg #[.int .i64 (((m : Nat) : Int)), .slice Ag (ng) (kg)]]) (cs := cells fG ([(((m : Nat) : Int), Ag, ng, kg)])) rfl rfl rfl (by decide) (fun _ => by kernel_rfl)) rfl rfl (kt1 rfl (fun g20 => ?_))
      refine ct_keep (L' := [(0, .agg #[.int .i64 (((m : Nat) : Int)), .slice Ag (ng) (kg)]), (1, .slice Al (ls.length) (cl)), (2, .slice Ae (es.length) (ce)), (3, .int .i64 (((k : Nat) : Int))), (4, elp (some ⟨g4, 0, none⟩) (0)), (8, .slice none (0) (0)), (12, .int .i64 (((k : Nat) : Int))), (13, .slice Ae (es.length) (ce)), (14, .int .i64 (((es.length : Nat) : Int))), (15, .bool true), (16, .slice Al (ls.length) (cl)), (17, .int .i64 (total ls)), (18, .bool true), (19, .agg #[.int .i64 (((m : Nat) : Int)), .slice Ag (ng) (kg)]), (20, .slice (some ⟨g20, 0, none⟩) (1) (1))]) (.cons rfl (.cons rfl (.cons rfl (.cons rfl (.cons rfl (.cons rfl (.cons rfl (.cons rfl (.cons rfl (.cons rfl (.cons rfl (.cons rfl (.cons rfl (.cons rfl (.cons rfl (.nil)))))))))))))))) (.consE (show row 25 2 (some ⟨g20, 0, none⟩) (1) (1) (cells fG ([(((m : Nat) : Int), Ag, ng, kg)])) = row 25 2 (some ⟨g20, 0, none⟩) (1) (1) (cells fG (gsOf m [(Ag, ng, kg)])) by rfl) (.head) (.cons (.head) (.cons (.head) (.refl)))) ?_
      refine ct_nest0 43 2 fE ?_
      refine ct_push (k := kg) (.cons (.head) (.cons (.tail (.tail .head)) (.cons (.head) (.cons (.head) (.refl))))) (eg) (lg) ?_
      refine wl_v (ov_assign rfl) rfl rfl rfl ?_
      refine wl_nil ?_
      refine ce_then ?_
      refine cw_ret ?_
      refine ce_then_ret ?_
      refine ce_then_ret ?_
      refine ce_results (v := .slice (some ⟨g20, 0, none⟩) (1) (1)) (res1 rfl (rv_t rfl)) (fun w' hw => ?_)
      exact ⟨some ⟨g20, 0, none⟩, 1, [] ++ [(Ag, ng, kg)], (by rw [hz]; exact Nat.le_refl _), (by rw [hz] <;> rfl), ((.consE (show row 25 2 (some ⟨g20, 0, none⟩) (1) (1) (cells fG (gsOf m [(Ag, ng, kg)])) = row 25 2 (some ⟨g20, 0, none⟩) ((allR (es.drop k) ls ch).length) (1) (cells fG (gsOf m ([] ++ [(Ag, ng, kg)]))) by rw [hz] <;> rfl) (.tail .head) (.consE (show nest 43 2 fE ([] ++ [(Ag, ng, kg)]) ([] ++ [ch]) = nest 43 2 fE ([] ++ [(Ag, ng, kg)]) (allR (es.drop k) ls ch) by rw [hz] <;> rfl) (.head) ((.drop .refl))) : Keep _ _).ss hw)⟩
    ·
      have hz : allR (es.drop k) ls ch = [] := (allR_end (by omega) ls ch).trans (if_neg (fun h => c18 ((total_zero hls).2 h)))
      refine wl_nil ?_
      refine ce_then ?_
      refine cw_false rfl ?_
      refine cw_skip ?_
      refine ce_then ?_
      refine cw_seq ?_
      refine cw_region ?_
      refine wl_r (or_buildSlice (e := 25) (size := 2) (is := []) (vs := []) (cs := cells fG ([])) rfl rfl rfl (by decide) (fun _ => by kernel_rfl)) rfl rfl (kt1 rfl (fun g21 => ?_))
      refine ct_keep (L' := [(0, .agg #[.int .i64 (((m : Nat) : Int)), .slice Ag (ng) (kg)]), (1, .slice Al (ls.length) (cl)), (2, .slice Ae (es.length) (ce)), (3, .int .i64 (((k : Nat) : Int))), (4, elp (some ⟨g4, 0, none⟩) (0)), (8, .slice none (0) (0)), (12, .int .i64 (((k : Nat) : Int))), (13, .slice Ae (es.length) (ce)), (14, .int .i64 (((es.length : Nat) : Int))), (15, .bool true), (16, .slice Al (ls.length) (cl)), (17, .int .i64 (total ls)), (18, .bool false), (21, .slice (some ⟨g21, 0, none⟩) (0) (0))]) (.cons rfl (.cons rfl (.cons rfl (.cons rfl (.cons rfl (.cons rfl (.cons rfl (.cons rfl (.cons rfl (.cons rfl (.cons rfl (.cons rfl (.cons rfl (.cons rfl (.nil))))))))))))))) (.consE (show row 25 2 (some ⟨g21, 0, none⟩) (0) (0) (cells fG ([])) = row 25 2 (some ⟨g21, 0, none⟩) (0) (0) (cells fG (gsOf m [])) by rfl) (.head) (.cons (.head) (.cons (.head) (.refl)))) ?_
      refine ct_nest0 43 2 fE ?_
      refine wl_v (ov_assign rfl) rfl rfl rfl ?_
      refine wl_nil ?_
      refine ce_then ?_
      refine cw_ret ?_
      refine ce_then_ret ?_
      refine ce_results (v := .slice (some ⟨g21, 0, none⟩) (0) (0)) (res1 rfl (rv_t rfl)) (fun w' hw => ?_)
      exact ⟨some ⟨g21, 0, none⟩, 0, [], (by rw [hz]; exact Nat.le_refl _), (by rw [hz] <;> rfl), ((.consE (show row 25 2 (some ⟨g21, 0, none⟩) (0) (0) (cells fG (gsOf m [])) = row 25 2 (some ⟨g21, 0, none⟩) ((allR (es.drop k) ls ch).length) (0) (cells fG (gsOf m ([]))) by rw [hz] <;> rfl) (.tail .head) (.consE (show nest 43 2 fE ([]) ([]) = nest 43 2 fE ([]) (allR (es.drop k) ls ch) by rw [hz] <;> rfl) (.head) ((.drop (.drop .refl)))) : Keep _ _).ss hw)⟩
  ·
    refine wl_nil ?_
    refine ce_then ?_
    refine cw_false rfl ?_
    refine cw_skip ?_
    refine ce_then ?_
    refine cw_seq ?_
    refine cw_region ?_
    refine wl_v (ov_move rfl) rfl rfl rfl ?_
    refine wl_v (ov_move rfl) rfl rfl rfl ?_
    refine wl_v (ov_index (k := k) (c := ce) sI23 tI43 rfl rfl (some_holds (q := k * 2) (Holds.keepF hAe ((.drop (.drop .refl)))) (by rw [cells_length fE_len]; have hlt : k < es.length := (by first | omega | (rw [List.length_set]; omega)); omega)) (show k < es.length from (by first | omega | (rw [List.length_set]; omega)))) rfl rfl rfl ?_
    refine wl_v (ov_loadAgg (vs := [.int .i64 ((es.getD k (0, 0)).1), .int .i64 ((es.getD k (0, 0)).2)]) tI43 (Holds.keepF hAe ((.drop (.drop .refl)))) rfl (some_holds (q := k * 2) (Holds.keepF hAe ((.drop (.drop .refl)))) (by rw [cells_length fE_len]; have hlt : k < es.length := (by first | omega | (rw [List.length_set]; omega)); omega)) (cells_elem fE_len (0, 0) (show k < es.length from (by first | omega | (rw [List.length_set]; omega)))) rfl) rfl rfl rfl ?_
    have hei := hes _ (getD_mem (xs := es) (k := k) (0, 0) (by omega))
    obtain ⟨he1, he2, he3⟩ := id hei
    have hla := hls _ (getD_mem (xs := ls) (k := (es.getD k (0, 0)).1.toNat) 0 (by omega))
    have hlb := hls _ (getD_mem (xs := ls) (k := (es.getD k (0, 0)).2.toNat) 0 (by omega))
    have hbs := hbd1 ls ch
    refine wl_r (or_alloc tI43 rfl) rfl rfl (kt1 rfl (fun g9 => ?_))
    refine wl_r0 (or_store_blk (vs := [.int .i64 ((es.getD k (0, 0)).1), .int .i64 ((es.getD k (0, 0)).2)]) (cs' := [.int .i64 ((es.getD k (0, 0)).1), .int .i64 ((es.getD k (0, 0)).2)]) (.head) tI43 rfl rfl rfl rfl (Nat.le_of_ble_eq_true rfl) rfl) rfl rfl (kn0 ?_)
    refine wl_nil ?_
    refine ce_then ?_
    refine cw_seq ?_
    refine cw_region ?_
    refine wl_r (or_buildSlice (e := 25) (size := 2) (is := []) (vs := []) (cs := cells fG ([])) rfl rfl rfl (by decide) (fun _ => by kernel_rfl)) rfl rfl (kt1 rfl (fun g26 => ?_))
    refine wl_v (ov_assign rfl) rfl rfl rfl ?_
    refine wl_nil ?_
    refine ce_then ?_
    refine cw_seq ?_
    refine cw_seq ?_
    refine ct_nest0 43 2 fE ?_
    refine ct_keep (L' := [(0, .agg #[.int .i64 (((m : Nat) : Int)), .slice Ag (ng) (kg)]), (1, .slice Al (ls.length) (cl)), (2, .slice Ae (es.length) (ce)), (3, .int .i64 (((k : Nat) : Int))), (4, elp (some ⟨g4, 0, none⟩) (0)), (8, .slice none (0) (0)), (9, elp (some ⟨g9, 0, none⟩) (0)), (10, .slice (some ⟨g26, 0, none⟩) (0) (0)), (12, .int .i64 (((k : Nat) : Int))), (13, .slice Ae (es.length) (ce)), (14, .int .i64 (((es.length : Nat) : Int))), (15, .bool false), (22, .slice Ae (es.length) (ce)), (23, .int .i64 (((k : Nat) : Int))), (24, elp Ae (k * 2)), (25, .agg #[.int .i64 ((es.getD k (0, 0)).1), .int .i64 ((es.getD k (0, 0)).2)]), (26, .slice (some ⟨g26, 0, none⟩) (0) (0))]) (.cons rfl (.cons rfl (.cons rfl (.cons rfl (.cons rfl (.cons rfl (.cons rfl (.cons rfl (.cons rfl (.cons rfl (.cons rfl (.cons rfl (.cons rfl (.cons rfl (.cons rfl (.cons rfl (.cons rfl (.nil)))))))))))))))))) (.cons (.head) (.consE (show row 25 2 (some ⟨g26, 0, none⟩) (0) (0) (cells fG ([])) = row 25 2 (some ⟨g26, 0, none⟩) (0) (0) (cells fG (gsOf m [])) by rfl) (.head) (.cons (.head) (.cons (.head) (.cons (.head) (.refl)))))) ?_
    refine cw_region ?_
    refine wl_v (ov_move rfl) rfl rfl rfl ?_
    refine wl_v (ov_fieldAddr fI43_0 some_lit rfl) rfl rfl rfl ?_
    refine wl_v (ov_load tI3 (holds_blk (List.Mem.tail _ (List.Mem.tail _ (List.Mem.head _)))) rfl rfl) rfl rfl rfl ?_
    refine wl_v (ov_indexg sI31 tI3 rfl rfl (some_holds (q := (((es.getD k (0, 0)).1).toNat) * 1) (Holds.keepF hAl ((.drop (.drop (.drop (.drop (.drop .refl))))))) (by rw [cells_length fI_len]; have hlt : ((es.getD k (0, 0)).1).toNat < ls.length := (by first | omega | (rw [List.length_set]; omega)); omega)) (by first | omega | (rw [List.length_set]; omega)) (show ((es.getD k (0, 0)).1).toNat < ls.length from (by first | omega | (rw [List.length_set]; omega)))) rfl rfl rfl ?_
    refine wl_v (ov_load tI3 (Holds.keepF hAl ((.drop (.drop (.drop (.drop (.drop .refl))))))) rfl (get_fI (show ((es.getD k (0, 0)).1).toNat < ls.length from (by first | omega | (rw [List.length_set]; omega))))) rfl rfl rfl ?_
    refine wl_if (ov_gtr rfl rfl) rfl rfl rfl (fun c32 => ?_) (fun c32 => ?_)
    ·
      refine wl_v (ov_move rfl) rfl rfl rfl ?_
      refine wl_go rfl rfl ?_
      refine wl_v (ov_move rfl) rfl rfl rfl ?_
      refine wl_go rfl rfl ?_
      refine wl_v (ov_fieldAddr fI43_1 some_lit rfl) rfl rfl rfl ?_
      refine wl_go rfl rfl ?_
      refine wl_v (ov_load tI3 (holds_blk (List.Mem.tail _ (List.Mem.tail _ (List.Mem.head _)))) rfl rfl) rfl rfl rfl ?_
      refine wl_go rfl rfl ?_
      refine wl_v (ov_indexg sI31 tI3 rfl rfl (some_holds (q := (((es.getD k (0, 0)).2).toNat) * 1) (Holds.keepF hAl ((.drop (.drop (.drop (.drop (.drop .refl))))))) (by rw [cells_length fI_len]; have hlt : ((es.getD k (0, 0)).2).toNat < ls.length := (by first | omega | (rw [List.length_set]; omega)); omega)) (by first | omega | (rw [List.length_set]; omega)) (show ((es.getD k (0, 0)).2).toNat < ls.length from (by first | omega | (rw [List.length_set]; omega)))) rfl rfl rfl ?_
      refine wl_go rfl rfl ?_
      refine wl_v (ov_load tI3 (Holds.keepF hAl ((.drop (.drop (.drop (.drop (.drop .refl))))))) rfl (get_fI (show ((es.getD k (0, 0)).2).toNat < ls.length from (by first | omega | (rw [List.length_set]; omega))))) rfl rfl rfl ?_
      refine wl_go rfl rfl ?_
      refine wl_if (ov_gtr rfl rfl) rfl rfl rfl (fun c39 => ?_) (fun c39 => ?_)
      ·
        have hmay : mayE ls (es.getD k (0, 0)) := ⟨by omega, by omega⟩
        have hz1 : allR (es.drop k) ls ch = allR (es.drop (k + 1)) (decE ls (es.getD k (0, 0))) (ch ++ [es.getD k (0, 0)]) ++ allR (es.drop (k + 1)) ls ch := allR_yes (by omega) hmay
        have hdb := decE_bd (hl.1.symm ▸ hei) hmay hls
        have hdl := decE_length ls (es.getD k (0, 0))
        have hsn : (ls.set (es.getD k (0, 0)).1.toNat (ls.getD (es.getD k (0, 0)).1.toNat 0 - 1)).getD (es.getD k (0, 0)).2.toNat 0 = ls.getD (es.getD k (0, 0)).2.toNat 0 := getD_set_neI (by omega)
        have hbdd := hbd1 (decE ls (es.getD k (0, 0))) (ch ++ [es.getD k (0, 0)])
        refine wl_v (ov_pick_t rfl rfl) rfl rfl rfl ?_
        refine wl_nil ?_
        refine ce_then ?_
        refine cw_true rfl ?_
        refine cw_seq ?_
        refine cw_region ?_
        refine wl_v (ov_move rfl) rfl rfl rfl ?_
        refine wl_r (or_call (fv := []) (vs := [.slice Al (ls.length) (cl)]) (cs := []) en99 rfl rfl (call_x2 (fun w hw => copyInts_c w Al ls.length cl ls ((Holds.keepF hAl ((.drop (.drop (.drop (.drop (.drop .refl))))))) w hw) rfl lAl (by omega)))) rfl rfl (kt2p rfl (fun A2_42 c2_42 h_42 => ?_))
        refine wl_v (ov_assign rfl) rfl rfl rfl ?_
        refine wl_nil ?_
        refine ce_then ?_
        refine cw_seq ?_
        refine cw_draw mixO [10] (.cons (.head) (.cons (.head) (.cons (.head) (.cons (.head) (.cons (.head) (.cons (.head) (.refl))))))) rfl ?_
        refine wg_takep (i := 0) rfl (ov_move rfl) rfl rfl rfl (by kernel_rfl) (by kernel_rfl) (by kernel_rfl) rfl ?_
        refine wg_take (i := 1) rfl (ov_fieldAddr fI43_0 some_lit rfl) rfl rfl rfl (by kernel_rfl) (by kernel_rfl) (by kernel_rfl) (by kernel_rfl) ?_
        refine wg_take (i := 2) rfl (ov_load tI3 (holds_blk (List.Mem.tail _ (List.Mem.tail _ (List.Mem.tail _ (List.Mem.head _))))) rfl rfl) rfl rfl rfl (by kernel_rfl) (by kernel_rfl) (by kernel_rfl) (by kernel_rfl) ?_
        refine wg_takep (i := 3) rfl (ov_move rfl) rfl rfl rfl (by kernel_rfl) (by kernel_rfl) (by kernel_rfl) rfl ?_
        refine wg_take (i := 4) rfl (ov_fieldAddr fI43_0 some_lit rfl) rfl rfl rfl (by kernel_rfl) (by kernel_rfl) (by kernel_rfl) (by kernel_rfl) ?_
        refine wg_take (i := 5) rfl (ov_load tI3 (holds_blk (List.Mem.tail _ (List.Mem.tail _ (List.Mem.tail _ (List.Mem.head _))))) rfl rfl) rfl rfl rfl (by kernel_rfl) (by kernel_rfl) (by kernel_rfl) (by kernel_rfl) ?_
        refine wg_take (i := 6) rfl (ov_indexg sI31 tI3 rfl rfl (some_holds (q := (((es.getD k (0, 0)).1).toNat) * 1) (holds_row (List.Mem.head _)) (by rw [cells_length fI_len]; have hlt : ((es.getD k (0, 0)).1).toNat < ls.length := (by first | omega | (rw [List.length_set]; omega)); omega)) (by first | omega | (rw [List.length_set]; omega)) (show ((es.getD k (0, 0)).1).toNat < ls.length from (by first | omega | (rw [List.length_set]; omega)))) rfl rfl rfl (by kernel_rfl) (by kernel_rfl) (by kernel_rfl) (by kernel_rfl) ?_
        refine wg_take (i := 7) rfl (ov_load tI3 (holds_row (List.Mem.head _)) rfl (get_fI (show ((es.getD k (0, 0)).1).toNat < ls.length from (by first | omega | (rw [List.length_set]; omega))))) rfl rfl rfl (by kernel_rfl) (by kernel_rfl) (by kernel_rfl) (by kernel_rfl) ?_
        refine wg_takep (i := 8) rfl (ov_sub (r := (ls.getD (((es.getD k (0, 0)).1).toNat) 0) - 1) rfl rfl rfl (by omega)) rfl rfl rfl (by kernel_rfl) (by kernel_rfl) (by kernel_rfl) rfl ?_
        refine wg_take (i := 9) rfl (ov_indexg sI31 tI3 rfl rfl (some_holds (q := (((es.getD k (0, 0)).1).toNat) * 1) (holds_row (List.Mem.head _)) (by rw [cells_length fI_len]; have hlt : ((es.getD k (0, 0)).1).toNat < ls.length := (by first | omega | (rw [List.length_set]; omega)); omega)) (by first | omega | (rw [List.length_set]; omega)) (show ((es.getD k (0, 0)).1).toNat < ls.length from (by first | omega | (rw [List.length_set]; omega)))) rfl rfl rfl (by kernel_rfl) (by kernel_rfl) (by kernel_rfl) (by kernel_rfl) ?_
        refine wg_one (i := 10) (by kernel_rfl) ?_
        refine go_late0 rfl rfl rfl rfl (or_store_row (vs := [.int .i64 ((ls.getD (((es.getD k (0, 0)).1).toNat) 0) - 1)]) (cs' := cells fI (ls.set (((es.getD k (0, 0)).1).toNat) ((ls.getD (((es.getD k (0, 0)).1).toNat) 0) - 1))) (.head) tI3 rfl rfl rfl rfl (by rw [cells_length fI_len]; have hlt := (show ((es.getD k (0, 0)).1).toNat < ls.length from (by first | omega | (rw [List.length_set]; omega))); simp only [List.length_cons, List.length_nil]; omega) (by simp) (cells_splice fI_len (show ((es.getD k (0, 0)).1).toNat < ls.length from (by first | omega | (rw [List.length_set]; omega))) ((ls.getD (((es.getD k (0, 0)).1).toNat) 0) - 1))) (kn0 ?_)
        refine wa_done (by kernel_rfl) ?_
        refine ce_then ?_
        refine cw_seq ?_
        refine cw_draw mixO [10] (.cons (.head) (.cons (.head) (.cons (.head) (.cons (.head) (.cons (.head) (.cons (.head) (.refl))))))) rfl ?_
        refine wg_takep (i := 0) rfl (ov_move rfl) rfl rfl rfl (by kernel_rfl) (by kernel_rfl) (by kernel_rfl) rfl ?_
        refine wg_take (i := 1) rfl (ov_fieldAddr fI43_1 some_lit rfl) rfl rfl rfl (by kernel_rfl) (by kernel_rfl) (by kernel_rfl) (by kernel_rfl) ?_
        refine wg_take (i := 2) rfl (ov_load tI3 (holds_blk (List.Mem.tail _ (List.Mem.tail _ (List.Mem.tail _ (List.Mem.head _))))) rfl rfl) rfl rfl rfl (by kernel_rfl) (by kernel_rfl) (by kernel_rfl) (by kernel_rfl) ?_
        refine wg_takep (i := 3) rfl (ov_move rfl) rfl rfl rfl (by kernel_rfl) (by kernel_rfl) (by kernel_rfl) rfl ?_
        refine wg_take (i := 4) rfl (ov_fieldAddr fI43_1 some_lit rfl) rfl rfl rfl (by kernel_rfl) (by kernel_rfl) (by kernel_rfl) (by kernel_rfl) ?_
        refine wg_take (i := 5) rfl (ov_load tI3 (holds_blk (List.Mem.tail _ (List.Mem.tail _ (List.Mem.tail _ (List.Mem.head _))))) rfl rfl) rfl rfl rfl (by kernel_rfl) (by kernel_rfl) (by kernel_rfl) (by kernel_rfl) ?_
        refine wg_take (i := 6) rfl (ov_indexg sI31 tI3 rfl rfl (some_holds (q := (((es.getD k (0, 0)).2).toNat) * 1) (holds_row (List.Mem.head _)) (by rw [cells_length fI_len]; have hlt : ((es.getD k (0, 0)).2).toNat < (ls.set (((es.getD k (0, 0)).1).toNat) ((ls.getD (((es.getD k (0, 0)).1).toNat) 0) - 1)).length := (by first | omega | (rw [List.length_set]; omega)); omega)) (by first | omega | (rw [List.length_set]; omega)) (show ((es.getD k (0, 0)).2).toNat < ls.length from (by first | omega | (rw [List.length_set]; omega)))) rfl rfl rfl (by kernel_rfl) (by kernel_rfl) (by kernel_rfl) (by kernel_rfl) ?_
        refine wg_take (i := 7) rfl (ov_load tI3 (holds_row (List.Mem.head _)) rfl (get_fI (show ((es.getD k (0, 0)).2).toNat < (ls.set (((es.getD k (0, 0)).1).toNat) ((ls.getD (((es.getD k (0, 0)).1).toNat) 0) - 1)).length from (by first | omega | (rw [List.length_set]; omega))))) rfl rfl rfl (by kernel_rfl) (by kernel_rfl) (by kernel_rfl) (by kernel_rfl) ?_
        refine wg_takep (i := 8) rfl (ov_sub (r := ((ls.set (((es.getD k (0, 0)).1).toNat) ((ls.getD (((es.getD k (0, 0)).1).toNat) 0) - 1)).getD (((es.getD k (0, 0)).2).toNat) 0) - 1) rfl rfl rfl (by omega)) rfl rfl rfl (by kernel_rfl) (by kernel_rfl) (by kernel_rfl) rfl ?_
        refine wg_take (i := 9) rfl (ov_indexg sI31 tI3 rfl rfl (some_holds (q := (((es.getD k (0, 0)).2).toNat) * 1) (holds_row (List.Mem.head _)) (by rw [cells_length fI_len]; have hlt : ((es.getD k (0, 0)).2).toNat < (ls.set (((es.getD k (0, 0)).1).toNat) ((ls.getD (((es.getD k (0, 0)).1).toNat) 0) - 1)).length := (by first | omega | (rw [List.length_set]; omega)); omega)) (by first | omega | (rw [List.length_set]; omega)) (show ((es.getD k (0, 0)).2).toNat < ls.length from (by first | omega | (rw [List.length_set]; omega)))) rfl rfl rfl (by kernel_rfl) (by kernel_rfl) (by kernel_rfl) (by kernel_rfl) ?_
        refine wg_one (i := 10) (by kernel_rfl) ?_
        refine go_late0 rfl rfl rfl rfl (or_store_row (vs := [.int .i64 (((ls.set (((es.getD k (0, 0)).1).toNat) ((ls.getD (((es.getD k (0, 0)).1).toNat) 0) - 1)).getD (((es.getD k (0, 0)).2).toNat) 0) - 1)]) (cs' := cells fI ((ls.set (((es.getD k (0, 0)).1).toNat) ((ls.getD (((es.getD k (0, 0)).1).toNat) 0) - 1)).set (((es.getD k (0, 0)).2).toNat) (((ls.set (((es.getD k (0, 0)).1).toNat) ((ls.getD (((es.getD k (0, 0)).1).toNat) 0) - 1)).getD (((es.getD k (0, 0)).2).toNat) 0) - 1))) (.head) tI3 rfl rfl rfl rfl (by rw [cells_length fI_len]; have hlt := (show ((es.getD k (0, 0)).2).toNat < (ls.set (((es.getD k (0, 0)).1).toNat) ((ls.getD (((es.getD k (0, 0)).1).toNat) 0) - 1)).length from (by first | omega | (rw [List.length_set]; omega))); simp only [List.length_cons, List.length_nil]; omega) (by simp) (cells_splice fI_len (show ((es.getD k (0, 0)).2).toNat < (ls.set (((es.getD k (0, 0)).1).toNat) ((ls.getD (((es.getD k (0, 0)).1).toNat) 0) - 1)).length from (by first | omega | (rw [List.length_set]; omega))) (((ls.set (((es.getD k (0, 0)).1).toNat) ((ls.getD (((es.getD k (0, 0)).1).toNat) 0) - 1)).getD (((es.getD k (0, 0)).2).toNat) 0) - 1))) (kn0 ?_)
        refine wa_done (by kernel_rfl) ?_
        refine ce_then ?_
        refine ct_keep (L' := [(0, .agg #[.int .i64 (((m : Nat) : Int)), .slice Ag (ng) (kg)]), (1, .slice Al (ls.length) (cl)), (2, .slice Ae (es.length) (ce)), (3, .int .i64 (((k : Nat) : Int))), (4, elp (some ⟨g4, 0, none⟩) (0)), (8, .slice none (0) (0)), (9, elp (some ⟨g9, 0, none⟩) (0)), (10, .slice (some ⟨g26, 0, none⟩) (0) (0)), (11, .slice A2_42 (ls.length) (c2_42)), (12, .int .i64 (((k : Nat) : Int))), (13, .slice Ae (es.length) (ce)), (14, .int .i64 (((es.length : Nat) : Int))), (15, .bool false), (22, .slice Ae (es.length) (ce)), (23, .int .i64 (((k : Nat) : Int))), (24, elp Ae (k * 2)), (25, .agg #[.int .i64 ((es.getD k (0, 0)).1), .int .i64 ((es.getD k (0, 0)).2)]), (26, .slice (some ⟨g26, 0, none⟩) (0) (0)), (27, .slice Al (ls.length) (cl)), (28, elp (some ⟨g9, 0, none⟩) (0)), (29, .int .i64 ((es.getD k (0, 0)).1)), (30, elp Al ((((es.getD k (0, 0)).1).toNat) * 1)), (31, .int .i64 ((ls.getD (((es.getD k (0, 0)).1).toNat) 0))), (32, .bool true), (33, .bool true), (34, .slice Al (ls.length) (cl)), (35, elp (some ⟨g9, 0, none⟩) (1)), (36, .int .i64 ((es.getD k (0, 0)).2)), (37, elp Al ((((es.getD k (0, 0)).2).toNat) * 1)), (38, .int .i64 ((ls.getD (((es.getD k (0, 0)).2).toNat) 0))), (39, .bool true), (40, .bool true), (41, .slice Al (ls.length) (cl)), (42, .slice A2_42 (ls.length) (c2_42)), (43, .slice A2_42 (ls.length) (c2_42)), (44, elp (some ⟨g9, 0, none⟩) (0)), (45, .int .i64 ((es.getD k (0, 0)).1)), (46, .slice A2_42 (ls.length) (c2_42)), (47, elp (some ⟨g9, 0, none⟩) (0)), (48, .int .i64 ((es.getD k (0, 0)).1)), (49, elp A2_42 ((((es.getD k (0, 0)).1).toNat) * 1)), (50, .int .i64 ((ls.getD (((es.getD k (0, 0)).1).toNat) 0))), (51, .int .i64 ((ls.getD (((es.getD k (0, 0)).1).toNat) 0) - 1)), (52, elp A2_42 ((((es.getD k (0, 0)).1).toNat) * 1)), (53, .slice A2_42 (ls.length) (c2_42)), (54, elp (some ⟨g9, 0, none⟩) (1)), (55, .int .i64 ((es.getD k (0, 0)).2)), (56, .slice A2_42 (ls.length) (c2_42)), (57, elp (some ⟨g9, 0, none⟩) (1)), (58, .int .i64 ((es.getD k (0, 0)).2)), (59, elp A2_42 ((((es.getD k (0, 0)).2).toNat) * 1)), (60, .int .i64 (((ls.set (((es.getD k (0, 0)).1).toNat) ((ls.getD (((es.getD k (0, 0)).1).toNat) 0) - 1)).getD (((es.getD k (0, 0)).2).toNat) 0))), (61, .int .i64 (((ls.set (((es.getD k (0, 0)).1).toNat) ((ls.getD (((es.getD k (0, 0)).1).toNat) 0) - 1)).getD (((es.getD k (0, 0)).2).toNat) 0) - 1)), (62, elp A2_42 ((((es.getD k (0, 0)).2).toNat) * 1))]) (.cons rfl (.cons rfl (.cons rfl (.cons rfl (.cons rfl (.cons rfl (.cons rfl (.cons rfl (.cons rfl (.cons rfl (.cons rfl (.cons rfl (.cons rfl (.cons rfl (.cons rfl (.cons rfl (.cons rfl (.cons rfl (.cons rfl (.cons rfl (.cons rfl (.cons rfl (.cons rfl (.cons rfl (.cons rfl (.cons rfl (.cons rfl (.cons rfl (.cons rfl (.cons rfl (.cons rfl (.cons rfl (.cons rfl (.cons rfl (.cons rfl (.cons rfl (.cons rfl (.cons rfl (.cons rfl (.cons rfl (.cons rfl (.cons rfl (.cons rfl (.cons rfl (.cons rfl (.cons rfl (.cons rfl (.cons rfl (.cons rfl (.cons rfl (.cons rfl (.cons rfl (.cons rfl (.cons rfl (.nil))))))))))))))))))))))))))))))))))))))))))))))))))))))) (.consE (show row 3 1 A2_42 (ls.length) (c2_42) (cells fI ((ls.set (((es.getD k (0, 0)).1).toNat) ((ls.getD (((es.getD k (0, 0)).1).toNat) 0) - 1)).set (((es.getD k (0, 0)).2).toNat) (((ls.set (((es.getD k (0, 0)).1).toNat) ((ls.getD (((es.getD k (0, 0)).1).toNat) 0) - 1)).getD (((es.getD k (0, 0)).2).toNat) 0) - 1))) = row 3 1 A2_42 (ls.length) (c2_42) (cells fI (decE ls (es.getD k (0, 0)))) by rfl) (.head) (.cons (.head) (.cons (.head) (.cons (.head) (.cons (.head) (.cons (.head) (.refl))))))) ?_
        refine cw_region ?_
        refine wl_v (ov_move rfl) rfl rfl rfl ?_
        refine wl_v (ov_loadAgg (vs := [.int .i64 (((m : Nat) : Int)), .slice Ag (ng) (kg)]) tI25 (holds_blk (List.Mem.tail _ (List.Mem.tail _ (List.Mem.tail _ (List.Mem.tail _ (List.Mem.head _)))))) rfl some_lit rfl rfl) rfl rfl rfl ?_
        refine wl_v (ov_fieldAddr fI43_0 some_lit rfl) rfl rfl rfl ?_
        refine wl_v (ov_load tI3 (holds_blk (List.Mem.tail _ (List.Mem.tail _ (List.Mem.tail _ (List.Mem.head _))))) rfl rfl) rfl rfl rfl ?_
        refine wl_v (ov_fieldAddr fI43_1 some_lit rfl) rfl rfl rfl ?_
        refine wl_v (ov_load tI3 (holds_blk (List.Mem.tail _ (List.Mem.tail _ (List.Mem.tail _ (List.Mem.head _))))) rfl rfl) rfl rfl rfl ?_
        refine wl_r (or_call (fv := []) (vs := [.agg #[.int .i64 (((m : Nat) : Int)), .slice Ag (ng) (kg)], .int .i64 ((es.getD k (0, 0)).1), .int .i64 ((es.getD k (0, 0)).2)]) (cs := []) en128 rfl rfl (call_x2 (fun w hw => addEdge_c w m Ag ng kg ch ((es.getD k (0, 0)).1) ((es.getD k (0, 0)).2) ((holds_row (List.Mem.tail _ (List.Mem.tail _ (List.Mem.tail _ (List.Mem.tail _ (List.Mem.tail _ (List.Mem.head _))))))) w hw) eg lg (by omega) (by omega) (fun x hx => hch x hx _ (by rw [drop_getD (0, 0) (show k < es.length by omega)]; simp))))) rfl rfl (kt2p rfl (fun A2_69 c2_69 h_69 => ?_))
        refine ct_keep (L' := [(0, .agg #[.int .i64 (((m : Nat) : Int)), .slice Ag (ng) (kg)]), (1, .slice Al (ls.length) (cl)), (2, .slice Ae (es.length) (ce)), (3, .int .i64 (((k : Nat) : Int))), (4, elp (some ⟨g4, 0, none⟩) (0)), (8, .slice none (0) (0)), (9, elp (some ⟨g9, 0, none⟩) (0)), (10, .slice (some ⟨g26, 0, none⟩) (0) (0)), (11, .slice A2_42 (ls.length) (c2_42)), (12, .int .i64 (((k : Nat) : Int))), (13, .slice Ae (es.length) (ce)), (14, .int .i64 (((es.length : Nat) : Int))), (15, .bool false), (22, .slice Ae (es.length) (ce)), (23, .int .i64 (((k : Nat) : Int))), (24, elp Ae (k * 2)), (25, .agg #[.int .i64 ((es.getD k (0, 0)).1), .int .i64 ((es.getD k (0, 0)).2)]), (26, .slice (some ⟨g26, 0, none⟩) (0) (0)), (27, .slice Al (ls.length) (cl)), (28, elp (some ⟨g9, 0, none⟩) (0)), (29, .int .i64 ((es.getD k (0, 0)).1)), (30, elp Al ((((es.getD k (0, 0)).1).toNat) * 1)), (31, .int .i64 ((ls.getD (((es.getD k (0, 0)).1).toNat) 0))), (32, .bool true), (33, .bool true), (34, .slice Al (ls.length) (cl)), (35, elp (some ⟨g9, 0, none⟩) (1)), (36, .int .i64 ((es.getD k (0, 0)).2)), (37, elp Al ((((es.getD k (0, 0)).2).toNat) * 1)), (38, .int .i64 ((ls.getD (((es.getD k (0, 0)).2).toNat) 0))), (39, .bool true), (40, .bool true), (41, .slice Al (ls.length) (cl)), (42, .slice A2_42 (ls.length) (c2_42)), (43, .slice A2_42 (ls.length) (c2_42)), (44, elp (some ⟨g9, 0, none⟩) (0)), (45, .int .i64 ((es.getD k (0, 0)).1)), (46, .slice A2_42 (ls.length) (c2_42)), (47, elp (some ⟨g9, 0, none⟩) (0)), (48, .int .i64 ((es.getD k (0, 0)).1)), (49, elp A2_42 ((((es.getD k (0, 0)).1).toNat) * 1)), (50, .int .i64 ((ls.getD (((es.getD k (0, 0)).1).toNat) 0))), (51, .int .i64 ((ls.getD (((es.getD k (0, 0)).1).toNat) 0) - 1)), (52, elp A2_42 ((((es.getD k (0, 0)).1).toNat) * 1)), (53, .slice A2_42 (ls.length) (c2_42)), (54, elp (some ⟨g9, 0, none⟩) (1)), (55, .int .i64 ((es.getD k (0, 0)).2)), (56, .slice A2_42 (ls.length) (c2_42)), (57, elp (some ⟨g9, 0, none⟩) (1)), (58, .int .i64 ((es.getD k (0, 0)).2)), (59, elp A2_42 ((((es.getD k (0, 0)).2).toNat) * 1)), (60, .int .i64 (((ls.set (((es.getD k (0, 0)).1).toNat) ((ls.getD (((es.getD k (0, 0)).1).toNat) 0) - 1)).getD (((es.getD k (0, 0)).2).toNat) 0))), (61, .int .i64 (((ls.set (((es.getD k (0, 0)).1).toNat) ((ls.getD (((es.getD k (0, 0)).1).toNat) 0) - 1)).getD (((es.getD k (0, 0)).2).toNat) 0) - 1)), (62, elp A2_42 ((((es.getD k (0, 0)).2).toNat) * 1)), (63, .slice (some ⟨g26, 0, none⟩) (0) (0)), (64, .agg #[.int .i64 (((m : Nat) : Int)), .slice Ag (ng) (kg)]), (65, elp (some ⟨g9, 0, none⟩) (0)), (66, .int .i64 ((es.getD k (0, 0)).1)), (67, elp (some ⟨g9, 0, none⟩) (1)), (68, .int .i64 ((es.getD k (0, 0)).2)), (69, .agg #[.int .i64 (((m : Nat) : Int)), .slice A2_69 (ng + 1) (c2_69)])]) (.cons rfl (.cons rfl (.cons rfl (.cons rfl (.cons rfl (.cons rfl (.cons rfl (.cons rfl (.cons rfl (.cons rfl (.cons rfl (.cons rfl (.cons rfl (.cons rfl (.cons rfl (.cons rfl (.cons rfl (.cons rfl (.cons rfl (.cons rfl (.cons rfl (.cons rfl (.cons rfl (.cons rfl (.cons rfl (.cons rfl (.cons rfl (.cons rfl (.cons rfl (.cons rfl (.cons rfl (.cons rfl (.cons rfl (.cons rfl (.cons rfl (.cons rfl (.cons rfl (.cons rfl (.cons rfl (.cons rfl (.cons rfl (.cons rfl (.cons rfl (.cons rfl (.cons rfl (.cons rfl (.cons rfl (.cons rfl (.cons rfl (.cons rfl (.cons rfl (.cons rfl (.cons rfl (.cons rfl (.cons rfl (.cons rfl (.cons rfl (.cons rfl (.cons rfl (.cons rfl (.cons rfl (.nil)))))))))))))))))))))))))))))))))))))))))))))))))))))))))))))) (.consE (show row 43 2 A2_69 (ng + 1) (c2_69) (cells fE (ch ++ [(((es.getD k (0, 0)).1), ((es.getD k (0, 0)).2))])) = row 43 2 A2_69 (ng + 1) (c2_69) (cells fE (ch ++ [es.getD k (0, 0)])) by rfl) (.head) (.cons (.head) (.cons (.head) (.cons (.head) (.cons (.head) (.cons (.head) (.cons (.head) (.refl)))))))) ?_
        refine wl_v (ov_move rfl) rfl rfl rfl ?_
        refine wl_v (ov_move rfl) rfl rfl rfl ?_
        refine wl_v (ov_move rfl) rfl rfl rfl ?_
        refine wl_v (ov_add (r := ((k + 1 : Nat) : Int)) rfl rfl rfl (by omega)) rfl rfl rfl ?_
        refine wl_r (or_call (fv := []) (vs := [.agg #[.int .i64 (((m : Nat) : Int)), .slice A2_69 (ng + 1) (c2_69)], .slice A2_42 (ls.length) (c2_42), .slice Ae (es.length) (ce), .int .i64 (((k + 1 : Nat) : Int))]) (cs := []) en114 rfl rfl (call_o (.cons (.head) (.cons (.head) (.cons (.head) (.cons (.head) (.cons (.head) (.cons (.head) (.cons (.head) (.refl)))))))) (fun w hw => search_c w _ _ _ A2_42 ls.length c2_42 (decE ls (es.getD k (0, 0))) Ae es.length ce es (k + 1) A2_69 (ng + 1) c2_69 c2_69 (ch ++ [es.getD k (0, 0)]) m (holds_row (List.Mem.head _)) hdl h_42 (Holds.keepF hAe ((.drop (.drop (.drop (.drop (.drop (.drop .refl)))))))) (by first | rfl | assumption | (simp; done) | (simp; omega)) lAe h_69 (by rw [List.length_append, eg]; rfl) ⟨hdl.trans hl.1, by omega, by omega, by omega, by omega⟩ hes hso hdb (fun x hx e he => by rcases List.mem_append.1 hx with h | h; exact hch x h e (List.drop_subset_drop_left es (Nat.le_succ k) he); simp only [List.mem_singleton] at h; subst h; exact below_drop hso (by omega) he) hw))) rfl rfl (kt3p rfl (fun A2_74 c2_74 hs_74 h_74 => ?_))
        refine ct_fact (nest_facts (List.Mem.tail _ (List.Mem.head _))) (fun hnf75 => ?_)
        refine wl_r (or_append (c2 := c2_74) sI38 tI25 rfl (by decide) rfl rfl (.tail (.tail (.tail (.tail .head)))) (holds_row (List.Mem.head _)) ((by rw [cells_length fG_len, gsOf_length]; exact congrArg (· * 2) hnf75.1)) (one_cells fG_one _) cells_append (by omega) (by omega)) rfl rfl (kt2p rfl (fun A75 c75 h75 => ?_))
        refine ct_nestapp (.cons (.tail (.tail (.tail (.tail .head)))) (.cons (.tail (.tail .head)) (.cons (.head) (.cons (.head) (.cons (.head) (.cons (.head) (.cons (.head) (.cons (.head) (.refl))))))))) ?_
        refine ct_keep (L' := [(0, .agg #[.int .i64 (((m : Nat) : Int)), .slice Ag (ng) (kg)]), (1, .slice Al (ls.length) (cl)), (2, .slice Ae (es.length) (ce)), (3, .int .i64 (((k : Nat) : Int))), (4, elp (some ⟨g4, 0, none⟩) (0)), (8, .slice none (0) (0)), (9, elp (some ⟨g9, 0, none⟩) (0)), (10, .slice (some ⟨g26, 0, none⟩) (0) (0)), (11, .slice A2_42 (ls.length) (c2_42)), (12, .int .i64 (((k : Nat) : Int))), (13, .slice Ae (es.length) (ce)), (14, .int .i64 (((es.length : Nat) : Int))), (15, .bool false), (22, .slice Ae (es.length) (ce)), (23, .int .i64 (((k : Nat) : Int))), (24, elp Ae (k * 2)), (25, .agg #[.int .i64 ((es.getD k (0, 0)).1), .int .i64 ((es.getD k (0, 0)).2)]), (26, .slice (some ⟨g26, 0, none⟩) (0) (0)), (27, .slice Al (ls.length) (cl)), (28, elp (some ⟨g9, 0, none⟩) (0)), (29, .int .i64 ((es.getD k (0, 0)).1)), (30, elp Al ((((es.getD k (0, 0)).1).toNat) * 1)), (31, .int .i64 ((ls.getD (((es.getD k (0, 0)).1).toNat) 0))), (32, .bool true), (33, .bool true), (34, .slice Al (ls.length) (cl)), (35, elp (some ⟨g9, 0, none⟩) (1)), (36, .int .i64 ((es.getD k (0, 0)).2)), (37, elp Al ((((es.getD k (0, 0)).2).toNat) * 1)), (38, .int .i64 ((ls.getD (((es.getD k (0, 0)).2).toNat) 0))), (39, .bool true), (40, .bool true), (41, .slice Al (ls.length) (cl)), (42, .slice A2_42 (ls.length) (c2_42)), (43, .slice A2_42 (ls.length) (c2_42)), (44, elp (some ⟨g9, 0, none⟩) (0)), (45, .int .i64 ((es.getD k (0, 0)).1)), (46, .slice A2_42 (ls.length) (c2_42)), (47, elp (some ⟨g9, 0, none⟩) (0)), (48, .int .i64 ((es.getD k (0, 0)).1)), (49, elp A2_42 ((((es.getD k (0, 0)).1).toNat) * 1)), (50, .int .i64 ((ls.getD (((es.getD k (0, 0)).1).toNat) 0))), (51, .int .i64 ((ls.getD (((es.getD k (0, 0)).1).toNat) 0) - 1)), (52, elp A2_42 ((((es.getD k (0, 0)).1).toNat) * 1)), (53, .slice A2_42 (ls.length) (c2_42)), (54, elp (some ⟨g9, 0, none⟩) (1)), (55, .int .i64 ((es.getD k (0, 0)).2)), (56, .slice A2_42 (ls.length) (c2_42)), (57, elp (some ⟨g9, 0, none⟩) (1)), (58, .int .i64 ((es.getD k (0, 0)).2)), (59, elp A2_42 ((((es.getD k (0, 0)).2).toNat) * 1)), (60, .int .i64 (((ls.set (((es.getD k (0, 0)).1).toNat) ((ls.getD (((es.getD k (0, 0)).1).toNat) 0) - 1)).getD (((es.getD k (0, 0)).2).toNat) 0))), (61, .int .i64 (((ls.set (((es.getD k (0, 0)).1).toNat) ((ls.getD (((es.getD k (0, 0)).1).toNat) 0) - 1)).getD (((es.getD k (0, 0)).2).toNat) 0) - 1)), (62, elp A2_42 ((((es.getD k (0, 0)).2).toNat) * 1)), (63, .slice (some ⟨g26, 0, none⟩) (0) (0)), (64, .agg #[.int .i64 (((m : Nat) : Int)), .slice Ag (ng) (kg)]), (65, elp (some ⟨g9, 0, none⟩) (0)), (66, .int .i64 ((es.getD k (0, 0)).1)), (67, elp (some ⟨g9, 0, none⟩) (1)), (68, .int .i64 ((es.getD k (0, 0)).2)), (69, .agg #[.int .i64 (((m : Nat) : Int)), .slice A2_69 (ng + 1) (c2_69)]), (70, .slice A2_42 (ls.length) (c2_42)), (71, .slice Ae (es.length) (ce)), (72, .int .i64 (((k : Nat) : Int))), (73, .int .i64 (((k + 1 : Nat) : Int))), (74, .slice A2_74 ((allR (es.drop (k + 1)) (decE ls (es.getD k (0, 0))) (ch ++ [es.getD k (0, 0)])).length) (c2_74)), (75, .slice A75 (0 + ((allR (es.drop (k + 1)) (decE ls (es.getD k (0, 0))) (ch ++ [es.getD k (0, 0)])).length)) (c75))]) (.cons rfl (.cons rfl (.cons rfl (.cons rfl (.cons rfl (.cons rfl (.cons rfl (.cons rfl (.cons rfl (.cons rfl (.cons rfl (.cons rfl (.cons rfl (.cons rfl (.cons rfl (.cons rfl (.cons rfl (.cons rfl (.cons rfl (.cons rfl (.cons rfl (.cons rfl (.cons rfl (.cons rfl (.cons rfl (.cons rfl (.cons rfl (.cons rfl (.cons rfl (.cons rfl (.cons rfl (.cons rfl (.cons rfl (.cons rfl (.cons rfl (.cons rfl (.cons rfl (.cons rfl (.cons rfl (.cons rfl (.cons rfl (.cons rfl (.cons rfl (.cons rfl (.cons rfl (.cons rfl (.cons rfl (.cons rfl (.cons rfl (.cons rfl (.cons rfl (.cons rfl (.cons rfl (.cons rfl (.cons rfl (.cons rfl (.cons rfl (.cons rfl (.cons rfl (.cons rfl (.cons rfl (.cons rfl (.cons rfl (.cons rfl (.cons rfl (.cons rfl (.cons rfl (.nil)))))))))))))))))))))))))))))))))))))))))))))))))))))))))))))))))))) (.cons (.head) (.consE (show row 25 2 A75 (0 + ((allR (es.drop (k + 1)) (decE ls (es.getD k (0, 0))) (ch ++ [es.getD k (0, 0)])).length)) (c75) (cells fG ((gsOf m []) ++ (gsOf m hs_74))) = row 25 2 A75 (0 + ((allR (es.drop (k + 1)) (decE ls (es.getD k (0, 0))) (ch ++ [es.getD k (0, 0)])).length)) (c75) (cells fG (gsOf m (([]) ++ hs_74))) by rw [← gsOf_app]) (.head) (.cons (.head) (.cons (.head) (.cons (.head) (.cons (.head) (.cons (.head) (.refl)))))))) ?_
        refine wl_v (ov_assign rfl) rfl rfl rfl ?_
        refine wl_nil ?_
        refine ce_then ?_
        refine cw_seq ?_
        refine cw_seq ?_
        refine cw_region ?_
        refine wl_v (ov_fieldAddr fI43_1 some_lit rfl) rfl rfl rfl ?_
        refine wl_v (ov_load tI3 (holds_blk (List.Mem.tail _ (List.Mem.tail _ (List.Mem.tail _ (List.Mem.tail _ (List.Mem.head _)))))) rfl rfl) rfl rfl rfl ?_
        refine wl_v (ov_add (r := ((es.getD k (0, 0)).2) + 1) rfl rfl rfl (by omega)) rfl rfl rfl ?_
        refine wl_v (ov_fieldAddr fI25_0 some_lit rfl) rfl rfl rfl ?_
        refine wl_v (ov_load tI3 (holds_blk (List.Mem.tail _ (List.Mem.tail _ (List.Mem.tail _ (List.Mem.tail _ (List.Mem.tail _ (List.Mem.head _))))))) rfl rfl) rfl rfl rfl ?_
        refine wl_if (ov_lss rfl rfl) rfl rfl rfl (fun c81 => ?_) (fun c81 => ?_)
        ·
          refine wl_v (ov_move rfl) rfl rfl rfl ?_
          refine wl_not rfl rfl rfl rfl rfl rfl ?_
          refine wl_not rfl rfl rfl rfl rfl rfl ?_
          refine wl_not rfl rfl rfl rfl rfl rfl ?_
          refine wl_not rfl rfl rfl rfl rfl rfl ?_
          refine wl_not rfl rfl rfl rfl rfl rfl ?_
          refine wl_not rfl rfl rfl rfl rfl rfl ?_
          refine wl_v (ov_pick_t rfl rfl) rfl rfl rfl ?_
          refine wl_nil ?_
          refine ce_then ?_
          refine cw_true rfl ?_
          refine cw_region ?_
          refine wl_v (ov_move rfl) rfl rfl rfl ?_
          refine wl_v (ov_loadAgg (vs := [.int .i64 (((m : Nat) : Int)), .slice Ag (ng) (kg)]) tI25 (holds_blk (List.Mem.tail _ (List.Mem.tail _ (List.Mem.tail _ (List.Mem.tail _ (List.Mem.tail _ (List.Mem.head _))))))) rfl some_lit rfl rfl) rfl rfl rfl ?_
          refine wl_v (ov_move rfl) rfl rfl rfl ?_
          refine wl_v (ov_move rfl) rfl rfl rfl ?_
          refine wl_v (ov_move rfl) rfl rfl rfl ?_
          refine wl_v (ov_add (r := ((k + 1 : Nat) : Int)) rfl rfl rfl (by omega)) rfl rfl rfl ?_
          refine wl_r (or_call (fv := []) (vs := [.agg #[.int .i64 (((m : Nat) : Int)), .slice Ag (ng) (kg)], .slice Al (ls.length) (cl), .slice Ae (es.length) (ce), .int .i64 (((k + 1 : Nat) : Int))]) (cs := []) en114 rfl rfl (call_o (.cons (.tail (.tail (.tail (.tail (.tail (.tail .head)))))) (.cons (.head) (.cons (.head) (.cons (.head) (.cons (.head) (.cons (.head) (.cons (.head) (.refl)))))))) (fun w hw => search_c w _ _ _ Al ls.length cl ls Ae es.length ce es (k + 1) Ag ng kg cg ch m (Holds.keepF hAl ((.drop (.drop (.drop (.drop (.drop (.drop .refl)))))))) (by first | rfl | assumption | (simp; done) | (simp; omega)) lAl (Holds.keepF hAe ((.drop (.drop (.drop (.drop (.drop (.drop .refl)))))))) (by first | rfl | assumption | (simp; done) | (simp; omega)) lAe lg eg ⟨hl.1, by omega, by omega, by omega, by omega⟩ hes hso hls (fun x hx e he => hch x hx e (List.drop_subset_drop_left es (Nat.le_succ k) he)) hw))) rfl rfl (kt3p rfl (fun A2_96 c2_96 hs_96 h_96 => ?_))
          refine ct_fact (nest_facts (List.Mem.tail _ (List.Mem.head _))) (fun hnf97 => ?_)
          refine wl_r (or_append (c2 := c2_96) sI38 tI25 rfl (by decide) rfl rfl (.tail (.tail (.tail .head))) (holds_row (List.Mem.head _)) ((by rw [cells_length fG_len, gsOf_length]; exact congrArg (· * 2) hnf97.1)) (one_cells fG_one _) cells_append (by omega) (by omega)) rfl rfl (kt2p rfl (fun A97 c97 h97 => ?_))
          refine ct_nestapp (.cons (.tail (.tail (.tail .head))) (.cons (.tail (.tail .head)) (.cons (.head) (.cons (.head) (.cons (.head) (.cons (.head) (.cons (.head) (.cons (.head) (.refl))))))))) ?_
          refine ct_keep (L' := [(0, .agg #[.int .i64 (((m : Nat) : Int)), .slice Ag (ng) (kg)]), (1, .slice Al (ls.length) (cl)), (2, .slice Ae (es.length) (ce)), (3, .int .i64 (((k : Nat) : Int))), (4, elp (some ⟨g4, 0, none⟩) (0)), (8, .slice none (0) (0)), (9, elp (some ⟨g9, 0, none⟩) (0)), (10, .slice A75 (0 + ((allR (es.drop (k + 1)) (decE ls (es.getD k (0, 0))) (ch ++ [es.getD k (0, 0)])).length)) (c75)), (11, .slice A2_42 (ls.length) (c2_42)), (12, .int .i64 (((k : Nat) : Int))), (13, .slice Ae (es.length) (ce)), (14, .int .i64 (((es.length : Nat) : Int))), (15, .bool false), (22, .slice Ae (es.length) (ce)), (23, .int .i64 (((k : Nat) : Int))), (24, elp Ae (k * 2)), (25, .agg #[.int .i64 ((es.getD k (0, 0)).1), .int .i64 ((es.getD k (0, 0)).2)]), (26, .slice (some ⟨g26, 0, none⟩) (0) (0)), (27, .slice Al (ls.length) (cl)), (28, elp (some ⟨g9, 0, none⟩) (0)), (29, .int .i64 ((es.getD k (0, 0)).1)), (30, elp Al ((((es.getD k (0, 0)).1).toNat) * 1)), (31, .int .i64 ((ls.getD (((es.getD k (0, 0)).1).toNat) 0))), (32, .bool true), (33, .bool true), (34, .slice Al (ls.length) (cl)), (35, elp (some ⟨g9, 0, none⟩) (1)), (36, .int .i64 ((es.getD k (0, 0)).2)), (37, elp Al ((((es.getD k (0, 0)).2).toNat) * 1)), (38, .int .i64 ((ls.getD (((es.getD k (0, 0)).2).toNat) 0))), (39, .bool true), (40, .bool true), (41, .slice Al (ls.length) (cl)), (42, .slice A2_42 (ls.length) (c2_42)), (43, .slice A2_42 (ls.length) (c2_42)), (44, elp (some ⟨g9, 0, none⟩) (0)), (45, .int .i64 ((es.getD k (0, 0)).1)), (46, .slice A2_42 (ls.length) (c2_42)), (47, elp (some ⟨g9, 0, none⟩) (0)), (48, .int .i64 ((es.getD k (0, 0)).1)), (49, elp A2_42 ((((es.getD k (0, 0)).1).toNat) * 1)), (50, .int .i64 ((ls.getD (((es.getD k (0, 0)).1).toNat) 0))), (51, .int .i64 ((ls.getD (((es.getD k (0, 0)).1).toNat) 0) - 1)), (52, elp A2_42 ((((es.getD k (0, 0)).1).toNat) * 1)), (53, .slice A2_42 (ls.length) (c2_42)), (54, elp (some ⟨g9, 0, none⟩) (1)), (55, .int .i64 ((es.getD k (0, 0)).2)), (56, .slice A2_42 (ls.length) (c2_42)), (57, elp (some ⟨g9, 0, none⟩) (1)), (58, .int .i64 ((es.getD k (0, 0)).2)), (59, elp A2_42 ((((es.getD k (0, 0)).2).toNat) * 1)), (60, .int .i64 (((ls.set (((es.getD k (0, 0)).1).toNat) ((ls.getD (((es.getD k (0, 0)).1).toNat) 0) - 1)).getD (((es.getD k (0, 0)).2).toNat) 0))), (61, .int .i64 (((ls.set (((es.getD k (0, 0)).1).toNat) ((ls.getD (((es.getD k (0, 0)).1).toNat) 0) - 1)).getD (((es.getD k (0, 0)).2).toNat) 0) - 1)), (62, elp A2_42 ((((es.getD k (0, 0)).2).toNat) * 1)), (63, .slice (some ⟨g26, 0, none⟩) (0) (0)), (64, .agg #[.int .i64 (((m : Nat) : Int)), .slice Ag (ng) (kg)]), (65, elp (some ⟨g9, 0, none⟩) (0)), (66, .int .i64 ((es.getD k (0, 0)).1)), (67, elp (some ⟨g9, 0, none⟩) (1)), (68, .int .i64 ((es.getD k (0, 0)).2)), (69, .agg #[.int .i64 (((m : Nat) : Int)), .slice A2_69 (ng + 1) (c2_69)]), (70, .slice A2_42 (ls.length) (c2_42)), (71, .slice Ae (es.length) (ce)), (72, .int .i64 (((k : Nat) : Int))), (73, .int .i64 (((k + 1 : Nat) : Int))), (74, .slice A2_74 ((allR (es.drop (k + 1)) (decE ls (es.getD k (0, 0))) (ch ++ [es.getD k (0, 0)])).length) (c2_74)), (75, .slice A75 (0 + ((allR (es.drop (k + 1)) (decE ls (es.getD k (0, 0))) (ch ++ [es.getD k (0, 0)])).length)) (c75)), (76, elp (some ⟨g9, 0, none⟩) (1)), (77, .int .i64 ((es.getD k (0, 0)).2)), (78, .int .i64 (((es.getD k (0, 0)).2) + 1)), (79, elp (some ⟨g4, 0, none⟩) (0)), (80, .int .i64 (((m : Nat) : Int))), (81, .bool true), (82, .bool true), (83, undef), (84, undef), (85, undef), (86, undef), (87, undef), (88, undef), (89, .bool true), (90, .slice A75 (0 + ((allR (es.drop (k + 1)) (decE ls (es.getD k (0, 0))) (ch ++ [es.getD k (0, 0)])).length)) (c75)), (91, .agg #[.int .i64 (((m : Nat) : Int)), .slice Ag (ng) (kg)]), (92, .slice Al (ls.length) (cl)), (93, .slice Ae (es.length) (ce)), (94, .int .i64 (((k : Nat) : Int))), (95, .int .i64 (((k + 1 : Nat) : Int))), (96, .slice A2_96 ((allR (es.drop (k + 1)) ls ch).length) (c2_96)), (97, .slice A97 ((0 + ((allR (es.drop (k + 1)) (decE ls (es.getD k (0, 0))) (ch ++ [es.getD k (0, 0)])).length)) + ((allR (es.drop (k + 1)) ls ch).length)) (c97))]) (.cons rfl (.cons rfl (.cons rfl (.cons rfl (.cons rfl (.cons rfl (.cons rfl (.cons rfl (.cons rfl (.cons rfl (.cons rfl (.cons rfl (.cons rfl (.cons rfl (.cons rfl (.cons rfl (.cons rfl (.cons rfl (.cons rfl (.cons rfl (.cons rfl (.cons rfl (.cons rfl (.cons rfl (.cons rfl (.cons rfl (.cons rfl (.cons rfl (.cons rfl (.cons rfl (.cons rfl (.cons rfl (.cons rfl (.cons rfl (.cons rfl (.cons rfl (.cons rfl (.cons rfl (.cons rfl (.cons rfl (.cons rfl (.cons rfl (.cons rfl (.cons rfl (.cons rfl (.cons rfl (.cons rfl (.cons rfl (.cons rfl (.cons rfl (.cons rfl (.cons rfl (.cons rfl (.cons rfl (.cons rfl (.cons rfl (.cons rfl (.cons rfl (.cons rfl (.cons rfl (.cons rfl (.cons rfl (.cons rfl (.cons rfl (.cons rfl (.cons rfl (.cons rfl (.cons rfl (.cons rfl (.cons rfl (.cons rfl (.cons rfl (.cons rfl (.cons rfl (.cons rfl (.cons rfl (.cons rfl (.cons rfl (.cons rfl (.cons rfl (.cons rfl (.cons rfl (.cons rfl (.cons rfl (.cons rfl (.cons rfl (.cons rfl (.cons rfl (.cons rfl (.nil)))))))))))))))))))))))))))))))))))))))))))))))))))))))))))))))))))))))))))))))))))))))))) (.cons (.head) (.consE (show row 25 2 A97 ((0 + ((allR (es.drop (k + 1)) (decE ls (es.getD k (0, 0))) (ch ++ [es.getD k (0, 0)])).length)) + ((allR (es.drop (k + 1)) ls ch).length)) (c97) (cells fG ((gsOf m (([]) ++ hs_74)) ++ (gsOf m hs_96))) = row 25 2 A97 ((0 + ((allR (es.drop (k + 1)) (decE ls (es.getD k (0, 0))) (ch ++ [es.getD k (0, 0)])).length)) + ((allR (es.drop (k + 1)) ls ch).length)) (c97) (cells fG (gsOf m ((([]) ++ hs_74) ++ hs_96))) by rw [← gsOf_app]) (.head) (.cons (.head) (.cons (.head) (.cons (.head) (.cons (.head) (.cons (.head) (.refl)))))))) ?_
          refine wl_v (ov_assign rfl) rfl rfl rfl ?_
          refine wl_nil ?_
          refine ce_then ?_
          refine cw_seq ?_
          refine ct_fact (room_fact (List.Mem.tail _ (List.Mem.head _))) (fun hroom9 => ?_)
          refine cw_region ?_
          refine wl_v (ov_move rfl) rfl rfl rfl ?_
          refine wl_v (ov_assign rfl) rfl rfl rfl ?_
          refine wl_nil ?_
          refine ce_then ?_
          refine cw_ret ?_
          refine ce_results (v := .slice A97 ((0 + ((allR (es.drop (k + 1)) (decE ls (es.getD k (0, 0))) (ch ++ [es.getD k (0, 0)])).length)) + ((allR (es.drop (k + 1)) ls ch).length)) (c97)) (res1 rfl (rv_t rfl)) (fun w' hw => ?_)
          exact ⟨A97, c97, (([]) ++ hs_74) ++ hs_96, (Nat.le_trans (Nat.le_of_eq (show (0 + ((allR (es.drop (k + 1)) (decE ls (es.getD k (0, 0))) (ch ++ [es.getD k (0, 0)])).length)) + ((allR (es.drop (k + 1)) ls ch).length) = (allR (es.drop k) ls ch).length by rw [hz1] <;> simp).symm) hroom9), (congrArg (fun z => Value.slice A97 z c97) (show (0 + ((allR (es.drop (k + 1)) (decE ls (es.getD k (0, 0))) (ch ++ [es.getD k (0, 0)])).length)) + ((allR (es.drop (k + 1)) ls ch).length) = (allR (es.drop k) ls ch).length by rw [hz1] <;> simp)), ((.consE (show row 25 2 A97 ((0 + ((allR (es.drop (k + 1)) (decE ls (es.getD k (0, 0))) (ch ++ [es.getD k (0, 0)])).length)) + ((allR (es.drop (k + 1)) ls ch).length)) (c97) (cells fG (gsOf m ((([]) ++ hs_74) ++ hs_96))) = row 25 2 A97 ((allR (es.drop k) ls ch).length) (c97) (cells fG (gsOf m ((([]) ++ hs_74) ++ hs_96))) by exact congrArg (fun z => row 25 2 A97 z c97 (cells fG (gsOf m ((([]) ++ hs_74) ++ hs_96)))) (show (0 + ((allR (es.drop (k + 1)) (decE ls (es.getD k (0, 0))) (ch ++ [es.getD k (0, 0)])).length)) + ((allR (es.drop (k + 1)) ls ch).length) = (allR (es.drop k) ls ch).length by rw [hz1] <;> simp)) (.tail .head) (.consE (show nest 43 2 fE ((([]) ++ hs_74) ++ hs_96) ((([]) ++ (allR (es.drop (k + 1)) (decE ls (es.getD k (0, 0))) (ch ++ [es.getD k (0, 0)]))) ++ (allR (es.drop (k + 1)) ls ch)) = nest 43 2 fE ((([]) ++ hs_74) ++ hs_96) (allR (es.drop k) ls ch) by rw [hz1] <;> simp) (.head) ((.drop (.drop (.drop (.drop (.drop .refl))))))) : Keep _ _).ss hw)⟩
        ·
          refine wl_v (ov_move rfl) rfl rfl rfl ?_
          refine wl_go rfl rfl ?_
          refine wl_v (ov_move rfl) rfl rfl rfl ?_
          refine wl_go rfl rfl ?_
          refine wl_v (ov_fieldAddr fI43_0 some_lit rfl) rfl rfl rfl ?_
          refine wl_go rfl rfl ?_
          refine wl_v (ov_load tI3 (holds_blk (List.Mem.tail _ (List.Mem.tail _ (List.Mem.tail _ (List.Mem.tail _ (List.Mem.head _)))))) rfl rfl) rfl rfl rfl ?_
          refine wl_go rfl rfl ?_
          refine wl_v (ov_indexg sI31 tI3 rfl rfl (some_holds (q := (((es.getD k (0, 0)).1).toNat) * 1) (Holds.keepF hAl ((.drop (.drop (.drop (.drop (.drop (.drop (.drop .refl))))))))) (by rw [cells_length fI_len]; have hlt : ((es.getD k (0, 0)).1).toNat < ls.length := (by first | omega | (rw [List.length_set]; omega)); omega)) (by first | omega | (rw [List.length_set]; omega)) (show ((es.getD k (0, 0)).1).toNat < ls.length from (by first | omega | (rw [List.length_set]; omega)))) rfl rfl rfl ?_
          refine wl_go rfl rfl ?_
          refine wl_v (ov_load tI3 (Holds.keepF hAl ((.drop (.drop (.drop (.drop (.drop (.drop (.drop .refl))))))))) rfl (get_fI (show ((es.getD k (0, 0)).1).toNat < ls.length from (by first | omega | (rw [List.length_set]; omega))))) rfl rfl rfl ?_
          refine wl_go rfl rfl ?_
          refine wl_if (ov_eql rfl rfl) rfl rfl rfl (fun c88 => ?_) (fun c88 => ?_)
          ·
            refine wl_v (ov_pick_f rfl rfl) rfl rfl rfl ?_
            refine wl_nil ?_
            refine ce_then ?_
            refine cw_true rfl ?_
            refine cw_region ?_
            refine wl_v (ov_move rfl) rfl rfl rfl ?_
            refine wl_v (ov_loadAgg (vs := [.int .i64 (((m : Nat) : Int)), .slice Ag (ng) (kg)]) tI25 (holds_blk (List.Mem.tail _ (List.Mem.tail _ (List.Mem.tail _ (List.Mem.tail _ (List.Mem.tail _ (List.Mem.head _))))))) rfl some_lit rfl rfl) rfl rfl rfl ?_
            refine wl_v (ov_move rfl) rfl rfl rfl ?_
            refine wl_v (ov_move rfl) rfl rfl rfl ?_
            refine wl_v (ov_move rfl) rfl rfl rfl ?_
            refine wl_v (ov_add (r := ((k + 1 : Nat) : Int)) rfl rfl rfl (by omega)) rfl rfl rfl ?_
            refine wl_r (or_call (fv := []) (vs := [.agg #[.int .i64 (((m : Nat) : Int)), .slice Ag (ng) (kg)], .slice Al (ls.length) (cl), .slice Ae (es.length) (ce), .int .i64 (((k + 1 : Nat) : Int))]) (cs := []) en114 rfl rfl (call_o (.cons (.tail (.tail (.tail (.tail (.tail (.tail .head)))))) (.cons (.head) (.cons (.head) (.cons (.head) (.cons (.head) (.cons (.head) (.cons (.head) (.refl)))))))) (fun w hw => search_c w _ _ _ Al ls.length cl ls Ae es.length ce es (k + 1) Ag ng kg cg ch m (Holds.keepF hAl ((.drop (.drop (.drop (.drop (.drop (.drop .refl)))))))) (by first | rfl | assumption | (simp; done) | (simp; omega)) lAl (Holds.keepF hAe ((.drop (.drop (.drop (.drop (.drop (.drop .refl)))))))) (by first | rfl | assumption | (simp; done) | (simp; omega)) lAe lg eg ⟨hl.1, by omega, by omega, by omega, by omega⟩ hes hso hls (fun x hx e he => hch x hx e (List.drop_subset_drop_left es (Nat.le_succ k) he)) hw))) rfl rfl (kt3p rfl (fun A2_96 c2_96 hs_96 h_96 => ?_))
            refine ct_fact (nest_facts (List.Mem.tail _ (List.Mem.head _))) (fun hnf97 => ?_)
            refine wl_r (or_append (c2 := c2_96) sI38 tI25 rfl (by decide) rfl rfl (.tail (.tail (.tail .head))) (holds_row (List.Mem.head _)) ((by rw [cells_length fG_len, gsOf_length]; exact congrArg (· * 2) hnf97.1)) (one_cells fG_one _) cells_append (by omega) (by omega)) rfl rfl (kt2p rfl (fun A97 c97 h97 => ?_))
            refine ct_nestapp (.cons (.tail (.tail (.tail .head))) (.cons (.tail (.tail .head)) (.cons (.head) (.cons (.head) (.cons (.head) (.cons (.head) (.cons (.head) (.cons (.head) (.refl))))))))) ?_
            refine ct_keep (L' := [(0, .agg #[.int .i64 (((m : Nat) : Int)), .slice Ag (ng) (kg)]), (1, .slice Al (ls.length) (cl)), (2, .slice Ae (es.length) (ce)), (3, .int .i64 (((k : Nat) : Int))), (4, elp (some ⟨g4, 0, none⟩) (0)), (8, .slice none (0) (0)), (9, elp (some ⟨g9, 0, none⟩) (0)), (10, .slice A75 (0 + ((allR (es.drop (k + 1)) (decE ls (es.getD k (0, 0))) (ch ++ [es.getD k (0, 0)])).length)) (c75)), (11, .slice A2_42 (ls.length) (c2_42)), (12, .int .i64 (((k : Nat) : Int))), (13, .slice Ae (es.length) (ce)), (14, .int .i64 (((es.length : Nat) : Int))), (15, .bool false), (22, .slice Ae (es.length) (ce)), (23, .int .i64 (((k : Nat) : Int))), (24, elp Ae (k * 2)), (25, .agg #[.int .i64 ((es.getD k (0, 0)).1), .int .i64 ((es.getD k (0, 0)).2)]), (26, .slice (some ⟨g26, 0, none⟩) (0) (0)), (27, .slice Al (ls.length) (cl)), (28, elp (some ⟨g9, 0, none⟩) (0)), (29, .int .i64 ((es.getD k (0, 0)).1)), (30, elp Al ((((es.getD k (0, 0)).1).toNat) * 1)), (31, .int .i64 ((ls.getD (((es.getD k (0, 0)).1).toNat) 0))), (32, .bool true), (33, .bool true), (34, .slice Al (ls.length) (cl)), (35, elp (some ⟨g9, 0, none⟩) (1)), (36, .int .i64 ((es.getD k (0, 0)).2)), (37, elp Al ((((es.getD k (0, 0)).2).toNat) * 1)), (38, .int .i64 ((ls.getD (((es.getD k (0, 0)).2).toNat) 0))), (39, .bool true), (40, .bool true), (41, .slice Al (ls.length) (cl)), (42, .slice A2_42 (ls.length) (c2_42)), (43, .slice A2_42 (ls.length) (c2_42)), (44, elp (some ⟨g9, 0, none⟩) (0)), (45, .int .i64 ((es.getD k (0, 0)).1)), (46, .slice A2_42 (ls.length) (c2_42)), (47, elp (some ⟨g9, 0, none⟩) (0)), (48, .int .i64 ((es.getD k (0, 0)).1)), (49, elp A2_42 ((((es.getD k (0, 0)).1).toNat) * 1)), (50, .int .i64 ((ls.getD (((es.getD k (0, 0)).1).toNat) 0))), (51, .int .i64 ((ls.getD (((es.getD k (0, 0)).1).toNat) 0) - 1)), (52, elp A2_42 ((((es.getD k (0, 0)).1).toNat) * 1)), (53, .slice A2_42 (ls.length) (c2_42)), (54, elp (some ⟨g9, 0, none⟩) (1)), (55, .int .i64 ((es.getD k (0, 0)).2)), (56, .slice A2_42 (ls.length) (c2_42)), (57, elp (some ⟨g9, 0, none⟩) (1)), (58, .int .i64 ((es.getD k (0, 0)).2)), (59, elp A2_42 ((((es.getD k (0, 0)).2).toNat) * 1)), (60, .int .i64 (((ls.set (((es.getD k (0, 0)).1).toNat) ((ls.getD (((es.getD k (0, 0)).1).toNat) 0) - 1)).getD (((es.getD k (0, 0)).2).toNat) 0))), (61, .int .i64 (((ls.set (((es.getD k (0, 0)).1).toNat) ((ls.getD (((es.getD k (0, 0)).1).toNat) 0) - 1)).getD (((es.getD k (0, 0)).2).toNat) 0) - 1)), (62, elp A2_42 ((((es.getD k (0, 0)).2).toNat) * 1)), (63, .slice (some ⟨g26, 0, none⟩) (0) (0)), (64, .agg #[.int .i64 (((m : Nat) : Int)), .slice Ag (ng) (kg)]), (65, elp (some ⟨g9, 0, none⟩) (0)), (66, .int .i64 ((es.getD k (0, 0)).1)), (67, elp (some ⟨g9, 0, none⟩) (1)), (68, .int .i64 ((es.getD k (0, 0)).2)), (69, .agg #[.int .i64 (((m : Nat) : Int)), .slice A2_69 (ng + 1) (c2_69)]), (70, .slice A2_42 (ls.length) (c2_42)), (71, .slice Ae (es.length) (ce)), (72, .int .i64 (((k : Nat) : Int))), (73, .int .i64 (((k + 1 : Nat) : Int))), (74, .slice A2_74 ((allR (es.drop (k + 1)) (decE ls (es.getD k (0, 0))) (ch ++ [es.getD k (0, 0)])).length) (c2_74)), (75, .slice A75 (0 + ((allR (es.drop (k + 1)) (decE ls (es.getD k (0, 0))) (ch ++ [es.getD k (0, 0)])).length)) (c75)), (76, elp (some ⟨g9, 0, none⟩) (1)), (77, .int .i64 ((es.getD k (0, 0)).2)), (78, .int .i64 (((es.getD k (0, 0)).2) + 1)), (79, elp (some ⟨g4, 0, none⟩) (0)), (80, .int .i64 (((m : Nat) : Int))), (81, .bool false), (82, .bool false), (83, .slice Al (ls.length) (cl)), (84, elp (some ⟨g9, 0, none⟩) (0)), (85, .int .i64 ((es.getD k (0, 0)).1)), (86, elp Al ((((es.getD k (0, 0)).1).toNat) * 1)), (87, .int .i64 ((ls.getD (((es.getD k (0, 0)).1).toNat) 0))), (88, .bool true), (89, .bool true), (90, .slice A75 (0 + ((allR (es.drop (k + 1)) (decE ls (es.getD k (0, 0))) (ch ++ [es.getD k (0, 0)])).length)) (c75)), (91, .agg #[.int .i64 (((m : Nat) : Int)), .slice Ag (ng) (kg)]), (92, .slice Al (ls.length) (cl)), (93, .slice Ae (es.length) (ce)), (94, .int .i64 (((k : Nat) : Int))), (95, .int .i64 (((k + 1 : Nat) : Int))), (96, .slice A2_96 ((allR (es.drop (k + 1)) ls ch).length) (c2_96)), (97, .slice A97 ((0 + ((allR (es.drop (k + 1)) (decE ls (es.getD k (0, 0))) (ch ++ [es.getD k (0, 0)])).length)) + ((allR (es.drop (k + 1)) ls ch).length)) (c97))]) (.cons rfl (.cons rfl (.cons rfl (.cons rfl (.cons rfl (.cons rfl (.cons rfl (.cons rfl (.cons rfl (.cons rfl (.cons rfl (.cons rfl (.cons rfl (.cons rfl (.cons rfl (.cons rfl (.cons rfl (.cons rfl (.cons rfl (.cons rfl (.cons rfl (.cons rfl (.cons rfl (.cons rfl (.cons rfl (.cons rfl (.cons rfl (.cons rfl (.cons rfl (.cons rfl (.cons rfl (.cons rfl (.cons rfl (.cons rfl (.cons rfl (.cons rfl (.cons rfl (.cons rfl (.cons rfl (.cons rfl (.cons rfl (.cons rfl (.cons rfl (.cons rfl (.cons rfl (.cons rfl (.cons rfl (.cons rfl (.cons rfl (.cons rfl (.cons rfl (.cons rfl (.cons rfl (.cons rfl (.cons rfl (.cons rfl (.cons rfl (.cons rfl (.cons rfl (.cons rfl (.cons rfl (.cons rfl (.cons rfl (.cons rfl (.cons rfl (.cons rfl (.cons rfl (.cons rfl (.cons rfl (.cons rfl (.cons rfl (.cons rfl (.cons rfl (.cons rfl (.cons rfl (.cons rfl (.cons rfl (.cons rfl (.cons rfl (.cons rfl (.cons rfl (.cons rfl (.cons rfl (.cons rfl (.cons rfl (.cons rfl (.cons rfl (.cons rfl (.cons rfl (.nil)))))))))))))))))))))))))))))))))))))))))))))))))))))))))))))))))))))))))))))))))))))))))) (.cons (.head) (.consE (show row 25 2 A97 ((0 + ((allR (es.drop (k + 1)) (decE ls (es.getD k (0, 0))) (ch ++ [es.getD k (0, 0)])).length)) + ((allR (es.drop (k + 1)) ls ch).length)) (c97) (cells fG ((gsOf m (([]) ++ hs_74)) ++ (gsOf m hs_96))) = row 25 2 A97 ((0 + ((allR (es.drop (k + 1)) (decE ls (es.getD k (0, 0))) (ch ++ [es.getD k (0, 0)])).length)) + ((allR (es.drop (k + 1)) ls ch).length)) (c97) (cells fG (gsOf m ((([]) ++ hs_74) ++ hs_96))) by rw [← gsOf_app]) (.head) (.cons (.head) (.cons (.head) (.cons (.head) (.cons (.head) (.cons (.head) (.refl)))))))) ?_
            refine wl_v (ov_assign rfl) rfl rfl rfl ?_
            refine wl_nil ?_
            refine ce_then ?_
            refine cw_seq ?_
            refine ct_fact (room_fact (List.Mem.tail _ (List.Mem.head _))) (fun hroom9 => ?_)
            refine cw_region ?_
            refine wl_v (ov_move rfl) rfl rfl rfl ?_
            refine wl_v (ov_assign rfl) rfl rfl rfl ?_
            refine wl_nil ?_
            refine ce_then ?_
            refine cw_ret ?_
            refine ce_results (v := .slice A97 ((0 + ((allR (es.drop (k + 1)) (decE ls (es.getD k (0, 0))) (ch ++ [es.getD k (0, 0)])).length)) + ((allR (es.drop (k + 1)) ls ch).length)) (c97)) (res1 rfl (rv_t rfl)) (fun w' hw => ?_)
            exact ⟨A97, c97, (([]) ++ hs_74) ++ hs_96, (Nat.le_trans (Nat.le_of_eq (show (0 + ((allR (es.drop (k + 1)) (decE ls (es.getD k (0, 0))) (ch ++ [es.getD k (0, 0)])).length)) + ((allR (es.drop (k + 1)) ls ch).length) = (allR (es.drop k) ls ch).length by rw [hz1] <;> simp).symm) hroom9), (congrArg (fun z => Value.slice A97 z c97) (show (0 + ((allR (es.drop (k + 1)) (decE ls (es.getD k (0, 0))) (ch ++ [es.getD k (0, 0)])).length)) + ((allR (es.drop (k + 1)) ls ch).length) = (allR (es.drop k) ls ch).length by rw [hz1] <;> simp)), ((.consE (show row 25 2 A97 ((0 + ((allR (es.drop (k + 1)) (decE ls (es.getD k (0, 0))) (ch ++ [es.getD k (0, 0)])).length)) + ((allR (es.drop (k + 1)) ls ch).length)) (c97) (cells fG (gsOf m ((([]) ++ hs_74) ++ hs_96))) = row 25 2 A97 ((allR (es.drop k) ls ch).length) (c97) (cells fG (gsOf m ((([]) ++ hs_74) ++ hs_96))) by exact congrArg (fun z => row 25 2 A97 z c97 (cells fG (gsOf m ((([]) ++ hs_74) ++ hs_96)))) (show (0 + ((allR (es.drop (k + 1)) (decE ls (es.getD k (0, 0))) (ch ++ [es.getD k (0, 0)])).length)) + ((allR (es.drop (k + 1)) ls ch).length) = (allR (es.drop k) ls ch).length by rw [hz1] <;> simp)) (.tail .head) (.consE (show nest 43 2 fE ((([]) ++ hs_74) ++ hs_96) ((([]) ++ (allR (es.drop (k + 1)) (decE ls (es.getD k (0, 0))) (ch ++ [es.getD k (0, 0)]))) ++ (allR (es.drop (k + 1)) ls ch)) = nest 43 2 fE ((([]) ++ hs_74) ++ hs_96) (allR (es.drop k) ls ch) by rw [hz1] <;> simp) (.head) ((.drop (.drop (.drop (.drop (.drop .refl))))))) : Keep _ _).ss hw)⟩
          ·
            have hz2 : allR (es.drop (k + 1)) ls ch = [] := allR_prune hso hes hl.1 (by omega) (by omega) (by omega)
            refine wl_v (ov_pick_f rfl rfl) rfl rfl rfl ?_
            refine wl_nil ?_
            refine ce_then ?_
            refine cw_false rfl ?_
            refine cw_skip ?_
            refine ce_then ?_
            refine cw_seq ?_
            refine ct_fact (room_fact (List.Mem.tail _ (List.Mem.head _))) (fun hroom9 => ?_)
            refine cw_region ?_
            refine wl_v (ov_move rfl) rfl rfl rfl ?_
            refine wl_v (ov_assign rfl) rfl rfl rfl ?_
            refine wl_nil ?_
            refine ce_then ?_
            refine cw_ret ?_
            refine ce_results (v := .slice A75 (0 + ((allR (es.drop (k + 1)) (decE ls (es.getD k (0, 0))) (ch ++ [es.getD k (0, 0)])).length)) (c75)) (res1 rfl (rv_t rfl)) (fun w' hw => ?_)
            exact ⟨A75, c75, ([]) ++ hs_74, (Nat.le_trans (Nat.le_of_eq (show 0 + ((allR (es.drop (k + 1)) (decE ls (es.getD k (0, 0))) (ch ++ [es.getD k (0, 0)])).length) = (allR (es.drop k) ls ch).length by rw [hz1, hz2] <;> simp).symm) hroom9), (congrArg (fun z => Value.slice A75 z c75) (show 0 + ((allR (es.drop (k + 1)) (decE ls (es.getD k (0, 0))) (ch ++ [es.getD k (0, 0)])).length) = (allR (es.drop k) ls ch).length by rw [hz1, hz2] <;> simp)), ((.consE (show row 25 2 A75 (0 + ((allR (es.drop (k + 1)) (decE ls (es.getD k (0, 0))) (ch ++ [es.getD k (0, 0)])).length)) (c75) (cells fG (gsOf m (([]) ++ hs_74))) = row 25 2 A75 ((allR (es.drop k) ls ch).length) (c75) (cells fG (gsOf m (([]) ++ hs_74))) by exact congrArg (fun z => row 25 2 A75 z c75 (cells fG (gsOf m (([]) ++ hs_74)))) (show 0 + ((allR (es.drop (k + 1)) (decE ls (es.getD k (0, 0))) (ch ++ [es.getD k (0, 0)])).length) = (allR (es.drop k) ls ch).length by rw [hz1, hz2] <;> simp)) (.tail .head) (.consE (show nest 43 2 fE (([]) ++ hs_74) (([]) ++ (allR (es.drop (k + 1)) (decE ls (es.getD k (0, 0))) (ch ++ [es.getD k (0, 0)]))) = nest 43 2 fE (([]) ++ hs_74) (allR (es.drop k) ls ch) by rw [hz1, hz2] <;> simp) (.head) ((.drop (.drop (.drop (.drop (.drop .refl))))))) : Keep _ _).ss hw)⟩
      ·
        have hz1 : allR (es.drop k) ls ch = [] ++ allR (es.drop (k + 1)) ls ch := (allR_no (by omega) (fun h => by have := h.2; omega)).trans (List.nil_append _).symm
        refine wl_v (ov_pick_t rfl rfl) rfl rfl rfl ?_
        refine wl_nil ?_
        refine ce_then ?_
        refine cw_false rfl ?_
        refine cw_skip ?_
        refine ce_then ?_
        refine cw_seq ?_
        refine cw_seq ?_
        refine cw_region ?_
        refine wl_v (ov_fieldAddr fI43_1 some_lit rfl) rfl rfl rfl ?_
        refine wl_v (ov_load tI3 (holds_blk (List.Mem.tail _ (List.Mem.tail _ (List.Mem.head _)))) rfl rfl) rfl rfl rfl ?_
        refine wl_v (ov_add (r := ((es.getD k (0, 0)).2) + 1) rfl rfl rfl (by omega)) rfl rfl rfl ?_
        refine wl_v (ov_fieldAddr fI25_0 some_lit rfl) rfl rfl rfl ?_
        refine wl_v (ov_load tI3 (holds_blk (List.Mem.tail _ (List.Mem.tail _ (List.Mem.tail _ (List.Mem.head _))))) rfl rfl) rfl rfl rfl ?_
        refine wl_if (ov_lss rfl rfl) rfl rfl rfl (fun c81 => ?_) (fun c81 => ?_)
        ·
          refine wl_v (ov_move rfl) rfl rfl rfl ?_
          refine wl_not rfl rfl rfl rfl rfl rfl ?_
          refine wl_not rfl rfl rfl rfl rfl rfl ?_
          refine wl_not rfl rfl rfl rfl rfl rfl ?_
          refine wl_not rfl rfl rfl rfl rfl rfl ?_
          refine wl_not rfl rfl rfl rfl rfl rfl ?_
          refine wl_not rfl rfl rfl rfl rfl rfl ?_
          refine wl_v (ov_pick_t rfl rfl) rfl rfl rfl ?_
          refine wl_nil ?_
          refine ce_then ?_
          refine cw_true rfl ?_
          refine cw_region ?_
          refine wl_v (ov_move rfl) rfl rfl rfl ?_
          refine wl_v (ov_loadAgg (vs := [.int .i64 (((m : Nat) : Int)), .slice Ag (ng) (kg)]) tI25 (holds_blk (List.Mem.tail _ (List.Mem.tail _ (List.Mem.tail _ (List.Mem.head _))))) rfl some_lit rfl rfl) rfl rfl rfl ?_
          refine wl_v (ov_move rfl) rfl rfl rfl ?_
          refine wl_v (ov_move rfl) rfl rfl rfl ?_
          refine wl_v (ov_move rfl) rfl rfl rfl ?_
          refine wl_v (ov_add (r := ((k + 1 : Nat) : Int)) rfl rfl rfl (by omega)) rfl rfl rfl ?_
          refine wl_r (or_call (fv := []) (vs := [.agg #[.int .i64 (((m : Nat) : Int)), .slice Ag (ng) (kg)], .slice Al (ls.length) (cl), .slice Ae (es.length) (ce), .int .i64 (((k + 1 : Nat) : Int))]) (cs := []) en114 rfl rfl (call_o (.cons (.tail (.tail (.tail (.tail .head)))) (.cons (.head) (.cons (.head) (.cons (.head) (.cons (.head) (.refl)))))) (fun w hw => search_c w _ _ _ Al ls.length cl ls Ae es.length ce es (k + 1) Ag ng kg cg ch m (Holds.keepF hAl ((.drop (.drop (.drop (.drop .refl)))))) (by first | rfl | assumption | (simp; done) | (simp; omega)) lAl (Holds.keepF hAe ((.drop (.drop (.drop (.drop .refl)))))) (by first | rfl | assumption | (simp; done) | (simp; omega)) lAe lg eg ⟨hl.1, by omega, by omega, by omega, by omega⟩ hes hso hls (fun x hx e he => hch x hx e (List.drop_subset_drop_left es (Nat.le_succ k) he)) hw))) rfl rfl (kt3p rfl (fun A2_96 c2_96 hs_96 h_96 => ?_))
          refine ct_fact (nest_facts (List.Mem.tail _ (List.Mem.head _))) (fun hnf97 => ?_)
          refine wl_r (or_append (c2 := c2_96) sI38 tI25 rfl (by decide) rfl rfl (.tail (.tail (.tail .head))) (holds_row (List.Mem.head _)) ((by rw [cells_length fG_len, gsOf_length]; exact congrArg (· * 2) hnf97.1)) (one_cells fG_one _) cells_append (by omega) (by omega)) rfl rfl (kt2p rfl (fun A97 c97 h97 => ?_))
          refine ct_nestapp (.cons (.tail (.tail (.tail .head))) (.cons (.tail (.tail .head)) (.cons (.head) (.cons (.head) (.cons (.head) (.cons (.head) (.refl))))))) ?_
          refine ct_keep (L' := [(0, .agg #[.int .i64 (((m : Nat) : Int)), .slice Ag (ng) (kg)]), (1, .slice Al (ls.length) (cl)), (2, .slice Ae (es.length) (ce)), (3, .int .i64 (((k : Nat) : Int))), (4, elp (some ⟨g4, 0, none⟩) (0)), (8, .slice none (0) (0)), (9, elp (some ⟨g9, 0, none⟩) (0)), (10, .slice (some ⟨g26, 0, none⟩) (0) (0)), (12, .int .i64 (((k : Nat) : Int))), (13, .slice Ae (es.length) (ce)), (14, .int .i64 (((es.length : Nat) : Int))), (15, .bool false), (22, .slice Ae (es.length) (ce)), (23, .int .i64 (((k : Nat) : Int))), (24, elp Ae (k * 2)), (25, .agg #[.int .i64 ((es.getD k (0, 0)).1), .int .i64 ((es.getD k (0, 0)).2)]), (26, .slice (some ⟨g26, 0, none⟩) (0) (0)), (27, .slice Al (ls.length) (cl)), (28, elp (some ⟨g9, 0, none⟩) (0)), (29, .int .i64 ((es.getD k (0, 0)).1)), (30, elp Al ((((es.getD k (0, 0)).1).toNat) * 1)), (31, .int .i64 ((ls.getD (((es.getD k (0, 0)).1).toNat) 0))), (32, .bool true), (33, .bool true), (34, .slice Al (ls.length) (cl)), (35, elp (some ⟨g9, 0, none⟩) (1)), (36, .int .i64 ((es.getD k (0, 0)).2)), (37, elp Al ((((es.getD k (0, 0)).2).toNat) * 1)), (38, .int .i64 ((ls.getD (((es.getD k (0, 0)).2).toNat) 0))), (39, .bool false), (40, .bool false), (76, elp (some ⟨g9, 0, none⟩) (1)), (77, .int .i64 ((es.getD k (0, 0)).2)), (78, .int .i64 (((es.getD k (0, 0)).2) + 1)), (79, elp (some ⟨g4, 0, none⟩) (0)), (80, .int .i64 (((m : Nat) : Int))), (81, .bool true), (82, .bool true), (83, undef), (84, undef), (85, undef), (86, undef), (87, undef), (88, undef), (89, .bool true), (90, .slice (some ⟨g26, 0, none⟩) (0) (0)), (91, .agg #[.int .i64 (((m : Nat) : Int)), .slice Ag (ng) (kg)]), (92, .slice Al (ls.length) (cl)), (93, .slice Ae (es.length) (ce)), (94, .int .i64 (((k : Nat) : Int))), (95, .int .i64 (((k + 1 : Nat) : Int))), (96, .slice A2_96 ((allR (es.drop (k + 1)) ls ch).length) (c2_96)), (97, .slice A97 (0 + ((allR (es.drop (k + 1)) ls ch).length)) (c97))]) (.cons rfl (.cons rfl (.cons rfl (.cons rfl (.cons rfl (.cons rfl (.cons rfl (.cons rfl (.cons rfl (.cons rfl (.cons rfl (.cons rfl (.cons rfl (.cons rfl (.cons rfl (.cons rfl (.cons rfl (.cons rfl (.cons rfl (.cons rfl (.cons rfl (.cons rfl (.cons rfl (.cons rfl (.cons rfl (.cons rfl (.cons rfl (.cons rfl (.cons rfl (.cons rfl (.cons rfl (.cons rfl (.cons rfl (.cons rfl (.cons rfl (.cons rfl (.cons rfl (.cons rfl (.cons rfl (.cons rfl (.cons rfl (.cons rfl (.cons rfl (.cons rfl (.cons rfl (.cons rfl (.cons rfl (.cons rfl (.cons rfl (.cons rfl (.cons rfl (.cons rfl (.cons rfl (.nil)))))))))))))))))))))))))))))))))))))))))))))))))))))) (.cons (.head) (.consE (show row 25 2 A97 (0 + ((allR (es.drop (k + 1)) ls ch).length)) (c97) (cells fG ((gsOf m []) ++ (gsOf m hs_96))) = row 25 2 A97 (0 + ((allR (es.drop (k + 1)) ls ch).length)) (c97) (cells fG (gsOf m (([]) ++ hs_96))) by rw [← gsOf_app]) (.head) (.cons (.head) (.cons (.head) (.cons (.head) (.refl)))))) ?_
          refine wl_v (ov_assign rfl) rfl rfl rfl ?_
          refine wl_nil ?_
          refine ce_then ?_
          refine cw_seq ?_
          refine ct_fact (room_fact (List.Mem.tail _ (List.Mem.head _))) (fun hroom9 => ?_)
          refine cw_region ?_
          refine wl_v (ov_move rfl) rfl rfl rfl ?_
          refine wl_v (ov_assign rfl) rfl rfl rfl ?_
          refine wl_nil ?_
          refine ce_then ?_
          refine cw_ret ?_
          refine ce_results (v := .slice A97 (0 + ((allR (es.drop (k + 1)) ls ch).length)) (c97)) (res1 rfl (rv_t rfl)) (fun w' hw => ?_)
          exact ⟨A97, c97, ([]) ++ hs_96, (Nat.le_trans (Nat.le_of_eq (show 0 + ((allR (es.drop (k + 1)) ls ch).length) = (allR (es.drop k) ls ch).length by rw [hz1] <;> simp).symm) hroom9), (congrArg (fun z => Value.slice A97 z c97) (show 0 + ((allR (es.drop (k + 1)) ls ch).length) = (allR (es.drop k) ls ch).length by rw [hz1] <;> simp)), ((.consE (show row 25 2 A97 (0 + ((allR (es.drop (k + 1)) ls ch).length)) (c97) (cells fG (gsOf m (([]) ++ hs_96))) = row 25 2 A97 ((allR (es.drop k) ls ch).length) (c97) (cells fG (gsOf m (([]) ++ hs_96))) by exact congrArg (fun z => row 25 2 A97 z c97 (cells fG (gsOf m (([]) ++ hs_96)))) (show 0 + ((allR (es.drop (k + 1)) ls ch).length) = (allR (es.drop k) ls ch).length by rw [hz1] <;> simp)) (.tail .head) (.consE (show nest 43 2 fE (([]) ++ hs_96) (([]) ++ (allR (es.drop (k + 1)) ls ch)) = nest 43 2 fE (([]) ++ hs_96) (allR (es.drop k) ls ch) by rw [hz1] <;> simp) (.head) ((.drop (.drop (.drop .refl))))) : Keep _ _).ss hw)⟩
        ·
          refine wl_v (ov_move rfl) rfl rfl rfl ?_
          refine wl_go rfl rfl ?_
          refine wl_v (ov_move rfl) rfl rfl rfl ?_
          refine wl_go rfl rfl ?_
          refine wl_v (ov_fieldAddr fI43_0 some_lit rfl) rfl rfl rfl ?_
          refine wl_go rfl rfl ?_
          refine wl_v (ov_load tI3 (holds_blk (List.Mem.tail _ (List.Mem.tail _ (List.Mem.head _)))) rfl rfl) rfl rfl rfl ?_
          refine wl_go rfl rfl ?_
          refine wl_v (ov_indexg sI31 tI3 rfl rfl (some_holds (q := (((es.getD k (0, 0)).1).toNat) * 1) (Holds.keepF hAl ((.drop (.drop (.drop (.drop (.drop .refl))))))) (by rw [cells_length fI_len]; have hlt : ((es.getD k (0, 0)).1).toNat < ls.length := (by first | omega | (rw [List.length_set]; omega)); omega)) (by first | omega | (rw [List.length_set]; omega)) (show ((es.getD k (0, 0)).1).toNat < ls.length from (by first | omega | (rw [List.length_set]; omega)))) rfl rfl rfl ?_
          refine wl_go rfl rfl ?_
          refine wl_v (ov_load tI3 (Holds.keepF hAl ((.drop (.drop (.drop (.drop (.drop .refl))))))) rfl (get_fI (show ((es.getD k (0, 0)).1).toNat < ls.length from (by first | omega | (rw [List.length_set]; omega))))) rfl rfl rfl ?_
          refine wl_go rfl rfl ?_
          refine wl_if (ov_eql rfl rfl) rfl rfl rfl (fun c88 => ?_) (fun c88 => ?_)
          ·
            refine wl_v (ov_pick_f rfl rfl) rfl rfl rfl ?_
            refine wl_nil ?_
            refine ce_then ?_
            refine cw_true rfl ?_
            refine cw_region ?_
            refine wl_v (ov_move rfl) rfl rfl rfl ?_
            refine wl_v (ov_loadAgg (vs := [.int .i64 (((m : Nat) : Int)), .slice Ag (ng) (kg)]) tI25 (holds_blk (List.Mem.tail _ (List.Mem.tail _ (List.Mem.tail _ (List.Mem.head _))))) rfl some_lit rfl rfl) rfl rfl rfl ?_
            refine wl_v (ov_move rfl) rfl rfl rfl ?_
            refine wl_v (ov_move rfl) rfl rfl rfl ?_
            refine wl_v (ov_move rfl) rfl rfl rfl ?_
            refine wl_v (ov_add (r := ((k + 1 : Nat) : Int)) rfl rfl rfl (by omega)) rfl rfl rfl ?_
            refine wl_r (or_call (fv := []) (vs := [.agg #[.int .i64 (((m : Nat) : Int)), .slice Ag (ng) (kg)], .slice Al (ls.length) (cl), .slice Ae (es.length) (ce), .int .i64 (((k + 1 : Nat) : Int))]) (cs := []) en114 rfl rfl (call_o (.cons (.tail (.tail (.tail (.tail .head)))) (.cons (.head) (.cons (.head) (.cons (.head) (.cons (.head) (.refl)))))) (fun w hw => search_c w _ _ _ Al ls.length cl ls Ae es.length ce es (k + 1) Ag ng kg cg ch m (Holds.keepF hAl ((.drop (.drop (.drop (.drop .refl)))))) (by first | rfl | assumption | (simp; done) | (simp; omega)) lAl (Holds.keepF hAe ((.drop (.drop (.drop (.drop .refl)))))) (by first | rfl | assumption | (simp; done) | (simp; omega)) lAe lg eg ⟨hl.1, by omega, by omega, by omega, by omega⟩ hes hso hls (fun x hx e he => hch x hx e (List.drop_subset_drop_left es (Nat.le_succ k) he)) hw))) rfl rfl (kt3p rfl (fun A2_96 c2_96 hs_96 h_96 => ?_))
            refine ct_fact (nest_facts (List.Mem.tail _ (List.Mem.head _))) (fun hnf97 => ?_)
            refine wl_r (or_append (c2 := c2_96) sI38 tI25 rfl (by decide) rfl rfl (.tail (.tail (.tail .head))) (holds_row (List.Mem.head _)) ((by rw [cells_length fG_len, gsOf_length]; exact congrArg (· * 2) hnf97.1)) (one_cells fG_one _) cells_append (by omega) (by omega)) rfl rfl (kt2p rfl (fun A97 c97 h97 => ?_))
            refine ct_nestapp (.cons (.tail (.tail (.tail .head))) (.cons (.tail (.tail .head)) (.cons (.head) (.cons (.head) (.cons (.head) (.cons (.head) (.refl))))))) ?_
            refine ct_keep (L' := [(0, .agg #[.int .i64 (((m : Nat) : Int)), .slice Ag (ng) (kg)]), (1, .slice Al (ls.length) (cl)), (2, .slice Ae (es.length) (ce)), (3, .int .i64 (((k : Nat) : Int))), (4, elp (some ⟨g4, 0, none⟩) (0)), (8, .slice none (0) (0)), (9, elp (some ⟨g9, 0, none⟩) (0)), (10, .slice (some ⟨g26, 0, none⟩) (0) (0)), (12, .int .i64 (((k : Nat) : Int))), (13, .slice Ae (es.length) (ce)), (14, .int .i64 (((es.length : Nat) : Int))), (15, .bool false), (22, .slice Ae (es.length) (ce)), (23, .int .i64 (((k : Nat) : Int))), (24, elp Ae (k * 2)), (25, .agg #[.int .i64 ((es.getD k (0, 0)).1), .int .i64 ((es.getD k (0, 0)).2)]), (26, .slice (some ⟨g26, 0, none⟩) (0) (0)), (27, .slice Al (ls.length) (cl)), (28, elp (some ⟨g9, 0, none⟩) (0)), (29, .int .i64 ((es.getD k (0, 0)).1)), (30, elp Al ((((es.getD k (0, 0)).1).toNat) * 1)), (31, .int .i64 ((ls.getD (((es.getD k (0, 0)).1).toNat) 0))), (32, .bool true), (33, .bool true), (34, .slice Al (ls.length) (cl)), (35, elp (some ⟨g9, 0, none⟩) (1)), (36, .int .i64 ((es.getD k (0, 0)).2)), (37, elp Al ((((es.getD k (0, 0)).2).toNat) * 1)), (38, .int .i64 ((ls.getD (((es.getD k (0, 0)).2).toNat) 0))), (39, .bool false), (40, .bool false), (76, elp (some ⟨g9, 0, none⟩) (1)), (77, .int .i64 ((es.getD k (0, 0)).2)), (78, .int .i64 (((es.getD k (0, 0)).2) + 1)), (79, elp (some ⟨g4, 0, none⟩) (0)), (80, .int .i64 (((m : Nat) : Int))), (81, .bool false), (82, .bool false), (83, .slice Al (ls.length) (cl)), (84, elp (some ⟨g9, 0, none⟩) (0)), (85, .int .i64 ((es.getD k (0, 0)).1)), (86, elp Al ((((es.getD k (0, 0)).1).toNat) * 1)), (87, .int .i64 ((ls.getD (((es.getD k (0, 0)).1).toNat) 0))), (88, .bool true), (89, .bool true), (90, .slice (some ⟨g26, 0, none⟩) (0) (0)), (91, .agg #[.int .i64 (((m : Nat) : Int)), .slice Ag (ng) (kg)]), (92, .slice Al (ls.length) (cl)), (93, .slice Ae (es.length) (ce)), (94, .int .i64 (((k : Nat) : Int))), (95, .int .i64 (((k + 1 : Nat) : Int))), (96, .slice A2_96 ((allR (es.drop (k + 1)) ls ch).length) (c2_96)), (97, .slice A97 (0 + ((allR (es.drop (k + 1)) ls ch).length)) (c97))]) (.cons rfl (.cons rfl (.cons rfl (.cons rfl (.cons rfl (.cons rfl (.cons rfl (.cons rfl (.cons rfl (.cons rfl (.cons rfl (.cons rfl (.cons rfl (.cons rfl (.cons rfl (.cons rfl (.cons rfl (.cons rfl (.cons rfl (.cons rfl (.cons rfl (.cons rfl (.cons rfl (.cons rfl (.cons rfl (.cons rfl (.cons rfl (.cons rfl (.cons rfl (.cons rfl (.cons rfl (.cons rfl (.cons rfl (.cons rfl (.cons rfl (.cons rfl (.cons rfl (.cons rfl (.cons rfl (.cons rfl (.cons rfl (.cons rfl (.cons rfl (.cons rfl (.cons rfl (.cons rfl (.cons rfl (.cons rfl (.cons rfl (.cons rfl (.cons rfl (.cons rfl (.cons rfl (.nil)))))))))))))))))))))))))))))))))))))))))))))))))))))) (.cons (.head) (.consE (show row 25 2 A97 (0 + ((allR (es.drop (k + 1)) ls ch).length)) (c97) (cells fG ((gsOf m []) ++ (gsOf m hs_96))) = row 25 2 A97 (0 + ((allR (es.drop (k + 1)) ls ch).length)) (c97) (cells fG (gsOf m (([]) ++ hs_96))) by rw [← gsOf_app]) (.head) (.cons (.head) (.cons (.head) (.cons (.head) (.refl)))))) ?_
            refine wl_v (ov_assign rfl) rfl rfl rfl ?_
            refine wl_nil ?_
            refine ce_then ?_
            refine cw_seq ?_
            refine ct_fact (room_fact (List.Mem.tail _ (List.Mem.head _))) (fun hroom9 => ?_)
            refine cw_region ?_
            refine wl_v (ov_move rfl) rfl rfl rfl ?_
            refine wl_v (ov_assign rfl) rfl rfl rfl ?_
            refine wl_nil ?_
            refine ce_then ?_
            refine cw_ret ?_
            refine ce_results (v := .slice A97 (0 + ((allR (es.drop (k + 1)) ls ch).length)) (c97)) (res1 rfl (rv_t rfl)) (fun w' hw => ?_)
            exact ⟨A97, c97, ([]) ++ hs_96, (Nat.le_trans (Nat.le_of_eq (show 0 + ((allR (es.drop (k + 1)) ls ch).length) = (allR (es.drop k) ls ch).length by rw [hz1] <;> simp).symm) hroom9), (congrArg (fun z => Value.slice A97 z c97) (show 0 + ((allR (es.drop (k + 1)) ls ch).length) = (allR (es.drop k) ls ch).length by rw [hz1] <;> simp)), ((.consE (show row 25 2 A97 (0 + ((allR (es.drop (k + 1)) ls ch).length)) (c97) (cells fG (gsOf m (([]) ++ hs_96))) = row 25 2 A97 ((allR (es.drop k) ls ch).length) (c97) (cells fG (gsOf m (([]) ++ hs_96))) by exact congrArg (fun z => row 25 2 A97 z c97 (cells fG (gsOf m (([]) ++ hs_96)))) (show 0 + ((allR (es.drop (k + 1)) ls ch).length) = (allR (es.drop k) ls ch).length by rw [hz1] <;> simp)) (.tail .head) (.consE (show nest 43 2 fE (([]) ++ hs_96) (([]) ++ (allR (es.drop (k + 1)) ls ch)) = nest 43 2 fE (([]) ++ hs_96) (allR (es.drop k) ls ch) by rw [hz1] <;> simp) (.head) ((.drop (.drop (.drop .refl))))) : Keep _ _).ss hw)⟩
          ·
            have hz2 : allR (es.drop (k + 1)) ls ch = [] := allR_prune hso hes hl.1 (by omega) (by omega) (by omega)
            refine wl_v (ov_pick_f rfl rfl) rfl rfl rfl ?_
            refine wl_nil ?_
            refine ce_then ?_
            refine cw_false rfl ?_
            refine cw_skip ?_
            refine ce_then ?_
            refine cw_seq ?_
            refine ct_fact (room_fact (List.Mem.tail _ (List.Mem.head _))) (fun hroom9 => ?_)
            refine cw_region ?_
            refine wl_v (ov_move rfl) rfl rfl rfl ?_
            refine wl_v (ov_assign rfl) rfl rfl rfl ?_
            refine wl_nil ?_
            refine ce_then ?_
            refine cw_ret ?_
            refine ce_results (v := .slice (some ⟨g26, 0, none⟩) (0) (0)) (res1 rfl (rv_t rfl)) (fun w' hw => ?_)
            exact ⟨some ⟨g26, 0, none⟩, 0, [], (Nat.le_trans (Nat.le_of_eq (show 0 = (allR (es.drop k) ls ch).length by rw [hz1, hz2] <;> simp).symm) hroom9), (congrArg (fun z => Value.slice (some ⟨g26, 0, none⟩) z 0) (show 0 = (allR (es.drop k) ls ch).length by rw [hz1, hz2] <;> simp)), ((.consE (show row 25 2 (some ⟨g26, 0, none⟩) (0) (0) (cells fG (gsOf m [])) = row 25 2 (some ⟨g26, 0, none⟩) ((allR (es.drop k) ls ch).length) (0) (cells fG (gsOf m ([]))) by exact congrArg (fun z => row 25 2 (some ⟨g26, 0, none⟩) z 0 (cells fG (gsOf m []))) (show 0 = (allR (es.drop k) ls ch).length by rw [hz1, hz2] <;> simp)) (.tail .head) (.consE (show nest 43 2 fE ([]) ([]) = nest 43 2 fE ([]) (allR (es.drop k) ls ch) by rw [hz1, hz2] <;> simp) (.head) ((.drop (.drop (.drop .refl))))) : Keep _ _).ss hw)⟩
    ·
      have hz1 : allR (es.drop k) ls ch = [] ++ allR (es.drop (k + 1)) ls ch := (allR_no (by omega) (fun h => by have := h.1; omega)).trans (List.nil_append _).symm
      refine wl_v (ov_move rfl) rfl rfl rfl ?_
      refine wl_not rfl rfl rfl rfl rfl rfl ?_
      refine wl_not rfl rfl rfl rfl rfl rfl ?_
      refine wl_not rfl rfl rfl rfl rfl rfl ?_
      refine wl_not rfl rfl rfl rfl rfl rfl ?_
      refine wl_not rfl rfl rfl rfl rfl rfl ?_
      refine wl_not rfl rfl rfl rfl rfl rfl ?_
      refine wl_v (ov_pick_f rfl rfl) rfl rfl rfl ?_
      refine wl_nil ?_
      refine ce_then ?_
      refine cw_false rfl ?_
      refine cw_skip ?_
      refine ce_then ?_
      refine cw_seq ?_
      refine cw_seq ?_
      refine cw_region ?_
      refine wl_v (ov_fieldAddr fI43_1 some_lit rfl) rfl rfl rfl ?_
      refine wl_v (ov_load tI3 (holds_blk (List.Mem.tail _ (List.Mem.tail _ (List.Mem.head _)))) rfl rfl) rfl rfl rfl ?_
      refine wl_v (ov_add (r := ((es.getD k (0, 0)).2) + 1) rfl rfl rfl (by omega)) rfl rfl rfl ?_
      refine wl_v (ov_fieldAddr fI25_0 some_lit rfl) rfl rfl rfl ?_
      refine wl_v (ov_load tI3 (holds_blk (List.Mem.tail _ (List.Mem.tail _ (List.Mem.tail _ (List.Mem.head _))))) rfl rfl) rfl rfl rfl ?_
      refine wl_if (ov_lss rfl rfl) rfl rfl rfl (fun c81 => ?_) (fun c81 => ?_)
      ·
        refine wl_v (ov_move rfl) rfl rfl rfl ?_
        refine wl_not rfl rfl rfl rfl rfl rfl ?_
        refine wl_not rfl rfl rfl rfl rfl rfl ?_
        refine wl_not rfl rfl rfl rfl rfl rfl ?_
        refine wl_not rfl rfl rfl rfl rfl rfl ?_
        refine wl_not rfl rfl rfl rfl rfl rfl ?_
        refine wl_not rfl rfl rfl rfl rfl rfl ?_
        refine wl_v (ov_pick_t rfl rfl) rfl rfl rfl ?_
        refine wl_nil ?_
        refine ce_then ?_
        refine cw_true rfl ?_
        refine cw_region ?_
        refine wl_v (ov_move rfl) rfl rfl rfl ?_
        refine wl_v (ov_loadAgg (vs := [.int .i64 (((m : Nat) : Int)), .slice Ag (ng) (kg)]) tI25 (holds_blk (List.Mem.tail _ (List.Mem.tail _ (List.Mem.tail _ (List.Mem.head _))))) rfl some_lit rfl rfl) rfl rfl rfl ?_
        refine wl_v (ov_move rfl) rfl rfl rfl ?_
        refine wl_v (ov_move rfl) rfl rfl rfl ?_
        refine wl_v (ov_move rfl) rfl rfl rfl ?_
        refine wl_v (ov_add (r := ((k + 1 : Nat) : Int)) rfl rfl rfl (by omega)) rfl rfl rfl ?_
        refine wl_r (or_call (fv := []) (vs := [.agg #[.int .i64 (((m : Nat) : Int)), .slice Ag (ng) (kg)], .slice Al (ls.length) (cl), .slice Ae (es.length) (ce), .int .i64 (((k + 1 : Nat) : Int))]) (cs := []) en114 rfl rfl (call_o (.cons (.tail (.tail (.tail (.tail .head)))) (.cons (.head) (.cons (.head) (.cons (.head) (.cons (.head) (.refl)))))) (fun w hw => search_c w _ _ _ Al ls.length cl ls Ae es.length ce es (k + 1) Ag ng kg cg ch m (Holds.keepF hAl ((.drop (.drop (.drop (.drop .refl)))))) (by first | rfl | assumption | (simp; done) | (simp; omega)) lAl (Holds.keepF hAe ((.drop (.drop (.drop (.drop .refl)))))) (by first | rfl | assumption | (simp; done) | (simp; omega)) lAe lg eg ⟨hl.1, by omega, by omega, by omega, by omega⟩ hes hso hls (fun x hx e he => hch x hx e (List.drop_subset_drop_left es (Nat.le_succ k) he)) hw))) rfl rfl (kt3p rfl (fun A2_96 c2_96 hs_96 h_96 => ?_))
        refine ct_fact (nest_facts (List.Mem.tail _ (List.Mem.head _))) (fun hnf97 => ?_)
        refine wl_r (or_append (c2 := c2_96) sI38 tI25 rfl (by decide) rfl rfl (.tail (.tail (.tail .head))) (holds_row (List.Mem.head _)) ((by rw [cells_length fG_len, gsOf_length]; exact congrArg (· * 2) hnf97.1)) (one_cells fG_one _) cells_append (by omega) (by omega)) rfl rfl (kt2p rfl (fun A97 c97 h97 => ?_))
        refine ct_nestapp (.cons (.tail (.tail (.tail .head))) (.cons (.tail (.tail .head)) (.cons (.head) (.cons (.head) (.cons (.head) (.cons (.head) (.refl))))))) ?_
        refine ct_keep (L' := [(0, .agg #[.int .i64 (((m : Nat) : Int)), .slice Ag (ng) (kg)]), (1, .slice Al (ls.length) (cl)), (2, .slice Ae (es.length) (ce)), (3, .int .i64 (((k : Nat) : Int))), (4, elp (some ⟨g4, 0, none⟩) (0)), (8, .slice none (0) (0)), (9, elp (some ⟨g9, 0, none⟩) (0)), (10, .slice (some ⟨g26, 0, none⟩) (0) (0)), (12, .int .i64 (((k : Nat) : Int))), (13, .slice Ae (es.length) (ce)), (14, .int .i64 (((es.length : Nat) : Int))), (15, .bool false), (22, .slice Ae (es.length) (ce)), (23, .int .i64 (((k : Nat) : Int))), (24, elp Ae (k * 2)), (25, .agg #[.int .i64 ((es.getD k (0, 0)).1), .int .i64 ((es.getD k (0, 0)).2)]), (26, .slice (some ⟨g26, 0, none⟩) (0) (0)), (27, .slice Al (ls.length) (cl)), (28, elp (some ⟨g9, 0, none⟩) (0)), (29, .int .i64 ((es.getD k (0, 0)).1)), (30, elp Al ((((es.getD k (0, 0)).1).toNat) * 1)), (31, .int .i64 ((ls.getD (((es.getD k (0, 0)).1).toNat) 0))), (32, .bool false), (33, .bool false), (34, undef), (35, undef), (36, undef), (37, undef), (38, undef), (39, undef), (40, .bool false), (76, elp (some ⟨g9, 0, none⟩) (1)), (77, .int .i64 ((es.getD k (0, 0)).2)), (78, .int .i64 (((es.getD k (0, 0)).2) + 1)), (79, elp (some ⟨g4, 0, none⟩) (0)), (80, .int .i64 (((m : Nat) : Int))), (81, .bool true), (82, .bool true), (83, undef), (84, undef), (85, undef), (86, undef), (87, undef), (88, undef), (89, .bool true), (90, .slice (some ⟨g26, 0, none⟩) (0) (0)), (91, .agg #[.int .i64 (((m : Nat) : Int)), .slice Ag (ng) (kg)]), (92, .slice Al (ls.length) (cl)), (93, .slice Ae (es.length) (ce)), (94, .int .i64 (((k : Nat) : Int))), (95, .int .i64 (((k + 1 : Nat) : Int))), (96, .slice A2_96 ((allR (es.drop (k + 1)) ls ch).length) (c2_96)), (97, .slice A97 (0 + ((allR (es.drop (k + 1)) ls ch).length)) (c97))]) (.cons rfl (.cons rfl (.cons rfl (.cons rfl (.cons rfl (.cons rfl (.cons rfl (.cons rfl (.cons rfl (.cons rfl (.cons rfl (.cons rfl (.cons rfl (.cons rfl (.cons rfl (.cons rfl (.cons rfl (.cons rfl (.cons rfl (.cons rfl (.cons rfl (.cons rfl (.cons rfl (.cons rfl (.cons rfl (.cons rfl (.cons rfl (.cons rfl (.cons rfl (.cons rfl (.cons rfl (.cons rfl (.cons rfl (.cons rfl (.cons rfl (.cons rfl (.cons rfl (.cons rfl (.cons rfl (.cons rfl (.cons rfl (.cons rfl (.cons rfl (.cons rfl (.cons rfl (.cons rfl (.cons rfl (.cons rfl (.cons rfl (.cons rfl (.cons rfl (.cons rfl (.cons rfl (.nil)))))))))))))))))))))))))))))))))))))))))))))))))))))) (.cons (.head) (.consE (show row 25 2 A97 (0 + ((allR (es.drop (k + 1)) ls ch).length)) (c97) (cells fG ((gsOf m []) ++ (gsOf m hs_96))) = row 25 2 A97 (0 + ((allR (es.drop (k + 1)) ls ch).length)) (c97) (cells fG (gsOf m (([]) ++ hs_96))) by rw [← gsOf_app]) (.head) (.cons (.head) (.cons (.head) (.cons (.head) (.refl)))))) ?_
        refine wl_v (ov_assign rfl) rfl rfl rfl ?_
        refine wl_nil ?_
        refine ce_then ?_
        refine cw_seq ?_
        refine ct_fact (room_fact (List.Mem.tail _ (List.Mem.head _))) (fun hroom9 => ?_)
        refine cw_region ?_
        refine wl_v (ov_move rfl) rfl rfl rfl ?_
        refine wl_v (ov_assign rfl) rfl rfl rfl ?_
        refine wl_nil ?_
        refine ce_then ?_
        refine cw_ret ?_
        refine ce_results (v := .slice A97 (0 + ((allR (es.drop (k + 1)) ls ch).length)) (c97)) (res1 rfl (rv_t rfl)) (fun w' hw => ?_)
        exact ⟨A97, c97, ([]) ++ hs_96, (Nat.le_trans (Nat.le_of_eq (show 0 + ((allR (es.drop (k + 1)) ls ch).length) = (allR (es.drop k) ls ch).length by rw [hz1] <;> simp).symm) hroom9), (congrArg (fun z => Value.slice A97 z c97) (show 0 + ((allR (es.drop (k + 1)) ls ch).length) = (allR (es.drop k) ls ch).length by rw [hz1] <;> simp)), ((.consE (show row 25 2 A97 (0 + ((allR (es.drop (k + 1)) ls ch).length)) (c97) (cells fG (gsOf m (([]) ++ hs_96))) = row 25 2 A97 ((allR (es.drop k) ls ch).length) (c97) (cells fG (gsOf m (([]) ++ hs_96))) by exact congrArg (fun z => row 25 2 A97 z c97 (cells fG (gsOf m (([]) ++ hs_96)))) (show 0 + ((allR (es.drop (k + 1)) ls ch).length) = (allR (es.drop k) ls ch).length by rw [hz1] <;> simp)) (.tail .head) (.consE (show nest 43 2 fE (([]) ++ hs_96) (([]) ++ (allR (es.drop (k + 1)) ls ch)) = nest 43 2 fE (([]) ++ hs_96) (allR (es.drop k) ls ch) by rw [hz1] <;> simp) (.head) ((.drop (.drop (.drop .refl))))) : Keep _ _).ss hw)⟩
      ·
        refine wl_v (ov_move rfl) rfl rfl rfl ?_
        refine wl_go rfl rfl ?_
        refine wl_v (ov_move rfl) rfl rfl rfl ?_
        refine wl_go rfl rfl ?_
        refine wl_v (ov_fieldAddr fI43_0 some_lit rfl) rfl rfl rfl ?_
        refine wl_go rfl rfl ?_
        refine wl_v (ov_load tI3 (holds_blk (List.Mem.tail _ (List.Mem.tail _ (List.Mem.head _)))) rfl rfl) rfl rfl rfl ?_
        refine wl_go rfl rfl ?_
        refine wl_v (ov_indexg sI31 tI3 rfl rfl (some_holds (q := (((es.getD k (0, 0)).1).toNat) * 1) (Holds.keepF hAl ((.drop (.drop (.drop (.drop (.drop .refl))))))) (by rw [cells_length fI_len]; have hlt : ((es.getD k (0, 0)).1).toNat < ls.length := (by first | omega | (rw [List.length_set]; omega)); omega)) (by first | omega | (rw [List.length_set]; omega)) (show ((es.getD k (0, 0)).1).toNat < ls.length from (by first | omega | (rw [List.length_set]; omega)))) rfl rfl rfl ?_
        refine wl_go rfl rfl ?_
        refine wl_v (ov_load tI3 (Holds.keepF hAl ((.drop (.drop (.drop (.drop (.drop .refl))))))) rfl (get_fI (show ((es.getD k (0, 0)).1).toNat < ls.length from (by first | omega | (rw [List.length_set]; omega))))) rfl rfl rfl ?_
        refine wl_go rfl rfl ?_
        refine wl_if (ov_eql rfl rfl) rfl rfl rfl (fun c88 => ?_) (fun c88 => ?_)
        ·
          refine wl_v (ov_pick_f rfl rfl) rfl rfl rfl ?_
          refine wl_nil ?_
          refine ce_then ?_
          refine cw_true rfl ?_
          refine cw_region ?_
          refine wl_v (ov_move rfl) rfl rfl rfl ?_
          refine wl_v (ov_loadAgg (vs := [.int .i64 (((m : Nat) : Int)), .slice Ag (ng) (kg)]) tI25 (holds_blk (List.Mem.tail _ (List.Mem.tail _ (List.Mem.tail _ (List.Mem.head _))))) rfl some_lit rfl rfl) rfl rfl rfl ?_
          refine wl_v (ov_move rfl) rfl rfl rfl ?_
          refine wl_v (ov_move rfl) rfl rfl rfl ?_
          refine wl_v (ov_move rfl) rfl rfl rfl ?_
          refine wl_v (ov_add (r := ((k + 1 : Nat) : Int)) rfl rfl rfl (by omega)) rfl rfl rfl ?_
          refine wl_r (or_call (fv := []) (vs := [.agg #[.int .i64 (((m : Nat) : Int)), .slice Ag (ng) (kg)], .slice Al (ls.length) (cl), .slice Ae (es.length) (ce), .int .i64 (((k + 1 : Nat) : Int))]) (cs := []) en114 rfl rfl (call_o (.cons (.tail (.tail (.tail (.tail .head)))) (.cons (.head) (.cons (.head) (.cons (.head) (.cons (.head) (.refl)))))) (fun w hw => search_c w _ _ _ Al ls.length cl ls Ae es.length ce es (k + 1) Ag ng kg cg ch m (Holds.keepF hAl ((.drop (.drop (.drop (.drop .refl)))))) (by first | rfl | assumption | (simp; done) | (simp; omega)) lAl (Holds.keepF hAe ((.drop (.drop (.drop (.drop .refl)))))) (by first | rfl | assumption | (simp; done) | (simp; omega)) lAe lg eg ⟨hl.1, by omega, by omega, by omega, by omega⟩ hes hso hls (fun x hx e he => hch x hx e (List.drop_subset_drop_left es (Nat.le_succ k) he)) hw))) rfl rfl (kt3p rfl (fun A2_96 c2_96 hs_96 h_96 => ?_))
          refine ct_fact (nest_facts (List.Mem.tail _ (List.Mem.head _))) (fun hnf97 => ?_)
          refine wl_r (or_append (c2 := c2_96) sI38 tI25 rfl (by decide) rfl rfl (.tail (.tail (.tail .head))) (holds_row (List.Mem.head _)) ((by rw [cells_length fG_len, gsOf_length]; exact congrArg (· * 2) hnf97.1)) (one_cells fG_one _) cells_append (by omega) (by omega)) rfl rfl (kt2p rfl (fun A97 c97 h97 => ?_))
          refine ct_nestapp (.cons (.tail (.tail (.tail .head))) (.cons (.tail (.tail .head)) (.cons (.head) (.cons (.head) (.cons (.head) (.cons (.head) (.refl))))))) ?_
          refine ct_keep (L' := [(0, .agg #[.int .i64 (((m : Nat) : Int)), .slice Ag (ng) (kg)]), (1, .slice Al (ls.length) (cl)), (2, .slice Ae (es.length) (ce)), (3, .int .i64 (((k : Nat) : Int))), (4, elp (some ⟨g4, 0, none⟩) (0)), (8, .slice none (0) (0)), (9, elp (some ⟨g9, 0, none⟩) (0)), (10, .slice (some ⟨g26, 0, none⟩) (0) (0)), (12, .int .i64 (((k : Nat) : Int))), (13, .slice Ae (es.length) (ce)), (14, .int .i64 (((es.length : Nat) : Int))), (15, .bool false), (22, .slice Ae (es.length) (ce)), (23, .int .i64 (((k : Nat) : Int))), (24, elp Ae (k * 2)), (25, .agg #[.int .i64 ((es.getD k (0, 0)).1), .int .i64 ((es.getD k (0, 0)).2)]), (26, .slice (some ⟨g26, 0, none⟩) (0) (0)), (27, .slice Al (ls.length) (cl)), (28, elp (some ⟨g9, 0, none⟩) (0)), (29, .int .i64 ((es.getD k (0, 0)).1)), (30, elp Al ((((es.getD k (0, 0)).1).toNat) * 1)), (31, .int .i64 ((ls.getD (((es.getD k (0, 0)).1).toNat) 0))), (32, .bool false), (33, .bool false), (34, undef), (35, undef), (36, undef), (37, undef), (38, undef), (39, undef), (40, .bool false), (76, elp (some ⟨g9, 0, none⟩) (1)), (77, .int .i64 ((es.getD k (0, 0)).2)), (78, .int .i64 (((es.getD k (0, 0)).2) + 1)), (79, elp (some ⟨g4, 0, none⟩) (0)), (80, .int .i64 (((m : Nat) : Int))), (81, .bool false), (82, .bool false), (83, .slice Al (ls.length) (cl)), (84, elp (some ⟨g9, 0, none⟩) (0)), (85, .int .i64 ((es.getD k (0, 0)).1)), (86, elp Al ((((es.getD k (0, 0)).1).toNat) * 1)), (87, .int .i64 ((ls.getD (((es.getD k (0, 0)).1).toNat) 0))), (88, .bool true), (89, .bool true), (90, .slice (some ⟨g26, 0, none⟩) (0) (0)), (91, .agg #[.int .i64 (((m : Nat) : Int)), .slice Ag (ng) (kg)]), (92, .slice Al (ls.length) (cl)), (93, .slice Ae (es.length) (ce)), (94, .int .i64 (((k : Nat) : Int))), (95, .int .i64 (((k + 1 : Nat) : Int))), (96, .slice A2_96 ((allR (es.drop (k + 1)) ls ch).length) (c2_96)), (97, .slice A97 (0 + ((allR (es.drop (k + 1)) ls ch).length)) (c97))]) (.cons rfl (.cons rfl (.cons rfl (.cons rfl (.cons rfl (.cons rfl (.cons rfl (.cons rfl (.cons rfl (.cons rfl (.cons rfl (.cons rfl (.cons rfl (.cons rfl (.cons rfl (.cons rfl (.cons rfl (.cons rfl (.cons rfl (.cons rfl (.cons rfl (.cons rfl (.cons rfl (.cons rfl (.cons rfl (.cons rfl (.cons rfl (.cons rfl (.cons rfl (.cons rfl (.cons rfl (.cons rfl (.cons rfl (.cons rfl (.cons rfl (.cons rfl (.cons rfl (.cons rfl (.cons rfl (.cons rfl (.cons rfl (.cons rfl (.cons rfl (.cons rfl (.cons rfl (.cons rfl (.cons rfl (.cons rfl (.cons rfl (.cons rfl (.cons rfl (.cons rfl (.cons rfl (.nil)))))))))))))))))))))))))))))))))))))))))))))))))))))) (.cons (.head) (.consE (show row 25 2 A97 (0 + ((allR (es.drop (k + 1)) ls ch).length)) (c97) (cells fG ((gsOf m []) ++ (gsOf m hs_96))) = row 25 2 A97 (0 + ((allR (es.drop (k + 1)) ls ch).length)) (c97) (cells fG (gsOf m (([]) ++ hs_96))) by rw [← gsOf_app]) (.head) (.cons (.head) (.cons (.head) (.cons (.head) (.refl)))))) ?_
          refine wl_v (ov_assign rfl) rfl rfl rfl ?_
          refine wl_nil ?_
          refine ce_then ?_
          refine cw_seq ?_
          refine ct_fact (room_fact (List.Mem.tail _ (List.Mem.head _))) (fun hroom9 => ?_)
          refine cw_region ?_
          refine wl_v (ov_move rfl) rfl rfl rfl ?_
          refine wl_v (ov_assign rfl) rfl rfl rfl ?_
          refine wl_nil ?_
          refine ce_then ?_
          refine cw_ret ?_
          refine ce_results (v := .slice A97 (0 + ((allR (es.drop (k + 1)) ls ch).length)) (c97)) (res1 rfl (rv_t rfl)) (fun w' hw => ?_)
          exact ⟨A97, c97, ([]) ++ hs_96, (Nat.le_trans (Nat.le_of_eq (show 0 + ((allR (es.drop (k + 1)) ls ch).length) = (allR (es.drop k) ls ch).length by rw [hz1] <;> simp).symm) hroom9), (congrArg (fun z => Value.slice A97 z c97) (show 0 + ((allR (es.drop (k + 1)) ls ch).length) = (allR (es.drop k) ls ch).length by rw [hz1] <;> simp)), ((.consE (show row 25 2 A97 (0 + ((allR (es.drop (k + 1)) ls ch).length)) (c97) (cells fG (gsOf m (([]) ++ hs_96))) = row 25 2 A97 ((allR (es.drop k) ls ch).length) (c97) (cells fG (gsOf m (([]) ++ hs_96))) by exact congrArg (fun z => row 25 2 A97 z c97 (cells fG (gsOf m (([]) ++ hs_96)))) (show 0 + ((allR (es.drop (k + 1)) ls ch).length) = (allR (es.drop k) ls ch).length by rw [hz1] <;> simp)) (.tail .head) (.consE (show nest 43 2 fE (([]) ++ hs_96) (([]) ++ (allR (es.drop (k + 1)) ls ch)) = nest 43 2 fE (([]) ++ hs_96) (allR (es.drop k) ls ch) by rw [hz1] <;> simp) (.head) ((.drop (.drop (.drop .refl))))) : Keep _ _).ss hw)⟩
        ·
          have hz2 : allR (es.drop (k + 1)) ls ch = [] := allR_prune hso hes hl.1 (by omega) (by omega) (by omega)
          refine wl_v (ov_pick_f rfl rfl) rfl rfl rfl ?_
          refine wl_nil ?_
          refine ce_then ?_
          refine cw_false rfl ?_
          refine cw_skip ?_
          refine ce_then ?_
          refine cw_seq ?_
          refine ct_fact (room_fact (List.Mem.tail _ (List.Mem.head _))) (fun hroom9 => ?_)
          refine cw_region ?_
          refine wl_v (ov_move rfl) rfl rfl rfl ?_
          refine wl_v (ov_assign rfl) rfl rfl rfl ?_
          refine wl_nil ?_
          refine ce_then ?_
          refine cw_ret ?_
          refine ce_results (v := .slice (some ⟨g26, 0, none⟩) (0) (0)) (res1 rfl (rv_t rfl)) (fun w' hw => ?_)
          exact ⟨some ⟨g26, 0, none⟩, 0, [], (Nat.le_trans (Nat.le_of_eq (show 0 = (allR (es.drop k) ls ch).length by rw [hz1, hz2] <;> simp).symm) hroom9), (congrArg (fun z => Value.slice (some ⟨g26, 0, none⟩) z 0) (show 0 = (allR (es.drop k) ls ch).length by rw [hz1, hz2] <;> simp)), ((.consE (show row 25 2 (some ⟨g26, 0, none⟩) (0) (0) (cells fG (gsOf m [])) = row 25 2 (some ⟨g26, 0, none⟩) ((allR (es.drop k) ls ch).length) (0) (cells fG (gsOf m ([]))) by exact congrArg (fun z => row 25 2 (some ⟨g26, 0, none⟩) z 0 (cells fG (gsOf m []))) (show 0 = (allR (es.drop k) ls ch).length by rw [hz1, hz2] <;> simp)) (.tail .head) (.consE (show nest 43 2 fE ([]) ([]) = nest 43 2 fE ([]) (allR (es.drop k) ls ch) by rw [hz1, hz2] <;> simp) (.head) ((.drop (.drop (.drop .refl))))) : Keep _ _).ss hw)⟩
termination_by es.length - k
decreasing_by all_goals omega
set_option maxRecDepth 100000 in
theorem realS_c (w : World) (A : Option Addr) (n : Nat) (c : Nat) (xs : List (Int)) (hA : At w A (cells fI xs)) (eA : xs.length = n) (lA : n ≤ c) (hV : Valid xs) (h5 : xs.length ≤ 5) : Calls Try.prog 62 #[.slice A (n) (c)] w (Ret fun rv w' => ∃ A2 c2 hs, ((allV xs).length ≤ c2) ∧ rv = .slice A2 ((allV xs).length) (c2) ∧ New w w' [row 25 2 A2 ((allV xs).length) (c2) (cells fG (gsOf xs.length hs)), nest 43 2 fE hs (allV xs)]) := by
  have oA := hA.atB
  subst eA
  have hv : allV xs = allR (prs xs.length) xs [] := if_pos ⟨hV, h5⟩
  have hps := prs_small xs.length (by omega)
  have hdz : (prs xs.length).drop 0 = prs xs.length := rfl
  refine fn_enter (args := [.slice A (xs.length) (c)]) Try.func62 rfl Try.ntmps62 rfl (SS.start w) ?_
  refine cw_seq ?_
  refine cw_region ?_
  refine wl_v (ov_assign rfl) rfl rfl rfl ?_
  refine wl_nil ?_
  refine ce_then ?_
  refine cw_seq ?_
  refine cw_region ?_
  refine wl_v (ov_move rfl) rfl rfl rfl ?_
  refine wl_v (ov_len (sliceI_spec sI31) rfl) rfl rfl rfl ?_
  refine wl_r (or_buildSlice (e := 43) (size := 2) (is := []) (vs := []) (cs := cells fE ([])) rfl rfl rfl (by decide) (fun _ => by kernel_rfl)) rfl rfl (kt1 rfl (fun g5 => ?_))
  refine wl_v (ov_build (is := [0, 1]) (vs := [.int .i64 (((xs.length : Nat) : Int)), .slice (some ⟨g5, 0, none⟩) (0) (0)]) (v := .agg #[.int .i64 (((xs.length : Nat) : Int)), .slice (some ⟨g5, 0, none⟩) (0) (0)]) rfl rfl (fun _ => by kernel_rfl)) rfl rfl rfl ?_
  refine wl_v (ov_move rfl) rfl rfl rfl ?_
  refine wl_v (ov_move rfl) rfl rfl rfl ?_
  refine wl_v (ov_len (sliceI_spec sI31) rfl) rfl rfl rfl ?_
  refine wl_r (or_call (fv := []) (vs := [.int .i64 (((xs.length : Nat) : Int))]) (cs := []) en112 rfl rfl (call_x2 (fun w hw => pairsS_c w xs.length (by omega)))) rfl rfl (kt2p rfl (fun A2_10 c2_10 h_10 => ?_))
  refine wl_r (or_call (fv := []) (vs := [.agg #[.int .i64 (((xs.length : Nat) : Int)), .slice (some ⟨g5, 0, none⟩) (0) (0)], .slice A (xs.length) (c), .slice A2_10 ((prs xs.length).length) (c2_10), .int .i64 (0)]) (cs := []) en114 rfl rfl (call_o (.cons (.tail .head) (.cons (.head) (.nil))) (fun w hw => search_c w _ _ _ A xs.length c xs A2_10 ((prs xs.length).length) c2_10 (prs xs.length) 0 (some ⟨g5, 0, none⟩) 0 0 0 ([]) xs.length (holds_old oA) rfl lA (holds_row (List.Mem.head _)) rfl h_10 (Nat.le_refl _) rfl ⟨rfl, by omega, by omega, by omega, Nat.le_refl _⟩ (fun e he => mem_prs.1 he) (prs_sorted _) (fun x hx => by have := hV.2 x hx; omega) (fun x hx => by cases hx) hw))) rfl rfl (kt3p rfl (fun A2_11 c2_11 hs_11 h_11 => ?_))
  refine wl_v (ov_assign rfl) rfl rfl rfl ?_
  refine wl_nil ?_
  refine ce_then ?_
  refine cw_ret ?_
  refine ce_results (v := .slice A2_11 ((allR ((prs xs.length).drop 0) xs ([])).length) (c2_11)) (res1 rfl (rv_t rfl)) (fun w' hw => ?_)
  exact ⟨A2_11, c2_11, hs_11, (by rw [hv]; exact h_11), (by rw [hv] <;> rfl), ((.consE (show row 25 2 A2_11 ((allR ((prs xs.length).drop 0) xs ([])).length) (c2_11) (cells fG (gsOf xs.length hs_11)) = row 25 2 A2_11 ((allV xs).length) (c2_11) (cells fG (gsOf xs.length hs_11)) by rw [hv] <;> rfl) (.head) (.consE (show nest 43 2 fE hs_11 (allR ((prs xs.length).drop 0) xs ([])) = nest 43 2 fE hs_11 (allV xs) by rw [hv] <;> rfl) (.head) (.nil)) : Keep _ _).ss hw).to_new⟩
end Go.Proofs.Ytfjgfocjogfodaa.W18
