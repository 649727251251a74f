/- Walks of functions of the given program: each returns what its Lean function says and leaves the memory that was there as it was. Conditions: those of each theorem. -/
import Derived.Test.YtfjgfocjogfodaaSm
import Derived.Test.YtfjgfocjogfodaaProg
import Derived.Test.YtfjgfocjogfodaaPl
import Derived.Test.YtfjgfocjogfodaaPo
import Derived.Test.YtfjgfocjogfodaaPd
import Derived.Test.YtfjgfocjogfodaaPe
import Derived.Test.YtfjgfocjogfodaaPh
import Derived.Test.YtfjgfocjogfodaaPm
import Derived.Test.YtfjgfocjogfodaaPc
import Derived.Test.YtfjgfocjogfodaaPs
import Derived.Test.YtfjgfocjogfodaaPt
import Derived.Test.YtfjgfocjogfodaaPu
import Derived.Test.YtfjgfocjogfodaaPv
import Derived.Test.YtfjgfocjogfodaaPw
import Derived.Test.YtfjgfocjogfodaaT
import Derived.Test.YtfjgfocjogfodaaW5
import Derived.Test.YtfjgfocjogfodaaW11
import Derived.KernelRfl
namespace Go.Proofs.Ytfjgfocjogfodaa.W24
open Go.Sx Go.RowKit Go.Proofs.Ytfjgfocjogfodaa.T Go.Proofs.Ytfjgfocjogfodaa.W5 Go.Proofs.Ytfjgfocjogfodaa.W11
open Go.Plain
set_option linter.unusedVariables false
set_option maxRecDepth 100000 in
theorem partDeg_c (w w0 : World) (Bd : Nat) (F : List Ent) (N : Int) (A1 : Option Addr) (n1 : Nat) (c1 : Nat) (es : List (Int × Int)) (g : Nat) (Ar : Option Addr) (nr : Nat) (cr : Nat) (bs : List Nat) (p : Nat) (hA1 : Holds (SS w0 Bd F) A1 (cells fE es)) (eA1 : es.length = n1) (lA1 : n1 ≤ c1) (hAr : Holds (SS w0 Bd F) Ar (cells fY bs)) (eAr : bs.length = nr) (lAr : nr ≤ cr) (hy : nr ≤ 2000 ∧ (∀ x ∈ bs, x < 256) ∧ p ≤ 80000) (hes : es.length ≤ 100) (hNb : -1 ≤ N ∧ N ≤ 8) (hss : SS w0 Bd ((blk g [.slice Ar (nr) (cr), .int .i64 (((p : Nat) : Int))] 99) :: F) w) : Calls Try.prog 71 #[elp (some ⟨g, 0, none⟩) (0), .agg #[.int .i64 (N), .slice A1 (n1) (c1)]] w (Ret fun rv w' => ∃ A2 c2 ys q, ((ys.length ≤ c2 ∧ ys.length ≤ 9 ∧ Sm ys) ∧ p ≤ q ∧ q ≤ p + 150) ∧ rv = .tuple #[.agg #[.int .i64 (N), .slice A1 (n1) (c1)], .slice A2 (ys.length) (c2)] ∧ SS w0 Bd ((row 3 1 A2 (ys.length) (c2) (cells fI ys)) :: (blk g [.slice Ar (nr) (cr), .int .i64 (((q : Nat) : Int))] 99) :: F) w') := by
  subst eA1
  refine fn_enter (args := [elp (some ⟨g, 0, none⟩) (0), .agg #[.int .i64 (N), .slice A1 (es.length) (c1)]]) Try.func71 rfl Try.ntmps71 rfl hss ?_
  refine cw_seq ?_
  refine cw_region ?_
  refine wl_r (or_box rfl rfl) rfl rfl (kt1 rfl (fun g3 => ?_))
  refine wl_r (or_alloc tI25 rfl) rfl rfl (kt1 rfl (fun g4 => ?_))
  refine wl_v (ov_assign rfl) rfl rfl rfl ?_
  refine wl_nil ?_
  refine ce_then ?_
  refine cw_seq ?_
  refine cw_seq ?_
  refine cw_region ?_
  refine wl_v (ov_loadAgg (vs := [.int .i64 (N), .slice A1 (es.length) (c1)]) tI25 (holds_blk (List.Mem.tail _ (List.Mem.head _))) rfl some_lit rfl rfl) rfl rfl rfl ?_
  refine wl_r (or_call (fv := []) (vs := [.agg #[.int .i64 (N), .slice A1 (es.length) (c1)]]) (cs := []) en43 rfl rfl (call_v (fun w hw => validGraphS_c w N A1 es.length c1 es ((Holds.keepF hA1 ((.drop (.drop (.drop .refl))))) w hw) rfl lA1 (by first | assumption | omega | (simp; omega))))) rfl rfl (kt_if rfl (fun c11 => ?_) (fun c11 => ?_))
  ·
    refine wl_v (ov_not rfl) rfl rfl rfl ?_
    refine wl_nil ?_
    refine ce_then ?_
    refine cw_false rfl ?_
    refine cw_skip ?_
    refine ce_then ?_
    refine cw_seq ?_
    obtain ⟨m, rfl⟩ := Int.eq_ofNat_of_zero_le (show 0 ≤ N from c11.2.1)
    have hg : Gr m es := by have h9 := c11.gr; rwa [Int.toNat_natCast] at h9
    have hm : m ≤ 7 := by have h9 := c11.2.2; omega
    refine cw_region ?_
    refine wl_v (ov_fieldAddr fI25_0 some_lit rfl) rfl rfl rfl ?_
    refine wl_v (ov_load tI3 (holds_blk (List.Mem.tail _ (List.Mem.head _))) rfl rfl) rfl rfl rfl ?_
    refine wl_r (or_buildSlice (e := 43) (size := 2) (is := []) (vs := []) (cs := cells fE ([])) rfl rfl rfl (by decide) (fun _ => by kernel_rfl)) rfl rfl (kt1 rfl (fun g17 => ?_))
    refine wl_v (ov_build (is := [0, 1]) (vs := [.int .i64 (((m : Nat) : Int)), .slice (some ⟨g17, 0, none⟩) (0) (0)]) (v := .agg #[.int .i64 (((m : Nat) : Int)), .slice (some ⟨g17, 0, none⟩) (0) (0)]) rfl rfl (fun _ => by kernel_rfl)) rfl rfl rfl ?_
    refine wl_r (or_alloc tI25 rfl) rfl rfl (kt1 rfl (fun g6 => ?_))
    refine wl_r0 (or_store_blk (vs := [.int .i64 (((m : Nat) : Int)), .slice (some ⟨g17, 0, none⟩) (0) (0)]) (cs' := [.int .i64 (((m : Nat) : Int)), .slice (some ⟨g17, 0, none⟩) (0) (0)]) (.head) tI25 rfl rfl rfl rfl (Nat.le_of_ble_eq_true rfl) rfl) rfl rfl (kn0 ?_)
    refine wl_nil ?_
    refine ce_then ?_
    refine cw_seq ?_
    refine cw_seq ?_
    refine cw_region ?_
    refine wl_v (ov_assign rfl) rfl rfl rfl ?_
    refine wl_nil ?_
    refine ce_then ?_
    refine cw_block ?_
    refine cw_loop5 (fun (k : Nat) (A3 : Option Addr) (c3 : Nat) (fs : List Ed) (q : Nat) => [(0, elp (some ⟨g, 0, none⟩) (0)), (3, elp (some ⟨g3, 0, none⟩) (0)), (4, elp (some ⟨g4, 0, none⟩) (0)), (5, .slice none (0) (0)), (6, elp (some ⟨g6, 0, none⟩) (0)), (7, .int .i64 (((k : Nat) : Int)))]) (fun (k : Nat) (A3 : Option Addr) (c3 : Nat) (fs : List Ed) (q : Nat) => (blk g6 [.int .i64 (((m : Nat) : Int)), .slice A3 (fs.length) (c3)] 25) :: (row 43 2 A3 (fs.length) (c3) (cells fE fs)) :: (blk g4 [.int .i64 (0), .slice none (0) (0)] 25) :: (blk g3 [.int .i64 (((m : Nat) : Int)), .slice A1 (es.length) (c1)] 25) :: (blk g [.slice Ar (nr) (cr), .int .i64 (((q : Nat) : Int))] 99) :: F) (fun (k : Nat) (A3 : Option Addr) (c3 : Nat) (fs : List Ed) (q : Nat) => k ≤ es.length ∧ fs.length ≤ c3 ∧ fs.Sublist (es.take k) ∧ p ≤ q ∧ q ≤ p + k) (fun (k : Nat) (A3 : Option Addr) (c3 : Nat) (fs : List Ed) (q : Nat) => es.length - k) 0 (some ⟨g17, 0, none⟩) 0 ([]) p ⟨by omega, Nat.le_refl _, List.nil_sublist _, by omega, by omega⟩ (.cons rfl (.cons rfl (.cons rfl (.cons rfl (.cons rfl (.cons (congrArg (fun z => some (Value.int .i64 z)) (show 0 = ((0 : Nat) : Int) by first | omega | rfl | (simp; done))) (.nil))))))) (.cons (.head) (.cons (.head) (.cons (.head) (.cons (.head) (.cons (.head) (.refl)))))) ?_
    intro R0 k A3 c3 fs q hk hR0
    obtain ⟨hk1, hk2, hk3, hk4, hk5⟩ := hk
    have hel := hk3.length_le
    rw [List.length_take] at hel
    refine cw_seq ?_
    refine cw_seq ?_
    refine cw_region ?_
    refine wl_v (ov_move rfl) rfl rfl rfl ?_
    refine wl_v (ov_fieldAddr fI25_1 some_lit rfl) rfl rfl rfl ?_
    refine wl_v (ov_load tI23 (holds_blk (List.Mem.tail _ (List.Mem.tail _ (List.Mem.tail _ (List.Mem.head _))))) rfl rfl) rfl rfl rfl ?_
    refine wl_v (ov_len (sliceI_spec sI23) rfl) rfl rfl rfl ?_
    refine wl_if (ov_lss rfl rfl) rfl rfl rfl (fun c23 => ?_) (fun c23 => ?_)
    ·
      refine wl_nil ?_
      refine ce_then ?_
      refine cw_true rfl ?_
      refine cw_skip ?_
      refine ce_then ?_
      refine cw_seq ?_
      refine cw_block ?_
      refine cw_seq ?_
      refine cw_region ?_
      refine wl_v (ov_move rfl) rfl rfl rfl ?_
      refine wl_r (or_call (fv := []) (vs := [elp (some ⟨g, 0, none⟩) (0), .int .i64 (2)]) (cs := []) en50 rfl rfl (call_o (.cons (.tail (.tail (.tail (.tail .head)))) (.cons (.head) (.cons (.head) (.cons (.head) (.cons (.head) (.refl)))))) (fun w hw => pick_c w _ _ _ 2 g Ar nr cr bs q (Holds.keepF hAr ((.drop (.drop (.drop (.drop .refl)))))) (by first | rfl | assumption | (simp; done) | (simp; omega)) lAr ⟨hy.1, hy.2.1, by omega⟩ (by first | assumption | omega | (simp; omega)) hw))) rfl rfl (kt1p rfl (fun v_27 h_27 => ?_))
      refine wl_if (ov_eql rfl rfl) rfl rfl rfl (fun c28 => ?_) (fun c28 => ?_)
      ·
        refine wl_nil ?_
        refine ce_then ?_
        refine cw_true rfl ?_
        refine cw_draw mixO [8, 9, 10] (.cons (.head) (.cons (.head) (.cons (.tail .head) (.cons (.tail .head) ((.drop .refl)))))) rfl ?_
        refine wg_takep (i := 0) rfl (ov_fieldAddr fI25_1 some_lit rfl) rfl rfl rfl (by kernel_rfl) (by kernel_rfl) (by kernel_rfl) rfl ?_
        refine wg_take (i := 1) rfl (ov_load tI23 (holds_blk (List.Mem.tail _ (List.Mem.head _))) rfl rfl) rfl rfl rfl (by kernel_rfl) (by kernel_rfl) (by kernel_rfl) (by kernel_rfl) ?_
        refine wg_takep (i := 2) rfl (ov_fieldAddr fI25_1 some_lit rfl) rfl rfl rfl (by kernel_rfl) (by kernel_rfl) (by kernel_rfl) rfl ?_
        refine wg_takec (i := 3) [5, 6, 7, 8, 9, 10] rfl (ov_load tI23 (holds_blk (List.Mem.tail _ (List.Mem.tail _ (List.Mem.tail _ (List.Mem.head _))))) rfl rfl) rfl rfl rfl (by kernel_rfl) (by kernel_rfl) (by kernel_rfl) (by kernel_rfl) ?_
        refine wg_takep (i := 4) rfl (ov_move rfl) rfl rfl rfl (by kernel_rfl) (by kernel_rfl) (by kernel_rfl) rfl ?_
        refine stg_some (some_holds (q := k * 2) (Holds.keepF hA1 ((.drop (.drop (.drop (.drop .refl)))))) (by rw [cells_length fE_len]; have hlt : k < es.length := (by first | omega | (simp; omega)); omega)) (fun hso34 => ?_)
        refine wg_takep (i := 5) rfl (ov_index (k := k) (c := c1) sI23 tI43 rfl rfl (fun _ _ => hso34) (show k < es.length from (by first | omega | (simp; omega)))) rfl rfl rfl (by kernel_rfl) (by kernel_rfl) (by kernel_rfl) rfl ?_
        refine wg_takec (i := 6) [7, 8, 9, 10] rfl (ov_loadAgg (vs := [.int .i64 ((es.getD k (0, 0)).1), .int .i64 ((es.getD k (0, 0)).2)]) tI43 (Holds.keepF hA1 ((.drop (.drop (.drop (.drop .refl)))))) rfl (some_holds (q := k * 2) (Holds.keepF hA1 ((.drop (.drop (.drop (.drop .refl)))))) (by rw [cells_length fE_len]; have hlt : k < es.length := (by first | omega | (simp; omega)); omega)) (cells_elem fE_len (0, 0) (show k < es.length from (by first | omega | (simp; omega)))) rfl) rfl rfl rfl (by kernel_rfl) (by kernel_rfl) (by kernel_rfl) (by kernel_rfl) ?_
        refine wg_one (i := 7) (by kernel_rfl) ?_
        refine go_r rfl rfl rfl rfl (or_buildSlice (e := 43) (size := 2) (is := [0]) (vs := [.agg #[.int .i64 ((es.getD k (0, 0)).1), .int .i64 ((es.getD k (0, 0)).2)]]) (cs := cells fE ([((es.getD k (0, 0)).1, (es.getD k (0, 0)).2)])) rfl rfl rfl (by decide) (fun _ => by kernel_rfl)) (kt1 rfl (fun g36 => ?_))
        refine gk (.cons (.tail .head) (.cons (.tail .head) (.cons (.tail (.tail .head)) (.cons (.tail (.tail .head)) ((.drop (.drop .refl))))))) ?_
        refine wg_one (i := 8) (by kernel_rfl) ?_
        refine go_late rfl rfl rfl rfl (or_append (c2 := 1) sI23 tI43 rfl (by decide) rfl rfl (.tail (.tail (.tail .head))) (holds_row (List.Mem.head _)) (by rw [cells_length fE_len]; try simp) (one_cells fE_one _) cells_append (by omega) (by omega)) (kt2p rfl (fun A37 c37 h37 => ?_))
        refine wa_r (i := 9) (by kernel_rfl) rfl rfl rfl (OpV.opR (ov_fieldAddr fI25_1 some_lit rfl)) (kt0 rfl ?_)
        refine wa_r0 (i := 10) (by kernel_rfl) rfl rfl rfl (or_store_blk (vs := [.slice A37 (fs.length + 1) (c37)]) (cs' := [.int .i64 (((m : Nat) : Int)), .slice A37 (fs.length + 1) (c37)]) (.tail (.tail (.tail .head))) tI23 rfl rfl rfl rfl (Nat.le_of_ble_eq_true rfl) rfl) (kn0 ?_)
        refine wa_done (by kernel_rfl) ?_
        refine ce_block ?_
        refine ce_then ?_
        refine cw_region ?_
        refine wl_v (ov_move rfl) rfl rfl rfl ?_
        refine wl_v (ov_add (r := ((k + 1 : Nat) : Int)) rfl rfl rfl (by omega)) rfl rfl rfl ?_
        refine wl_v (ov_assign rfl) rfl rfl rfl ?_
        refine wl_nil ?_
        exact fun ac_ w_ hs_ => hR0 (k + 1) A37 c37 (fs ++ ([((es.getD k (0, 0)).1, (es.getD k (0, 0)).2)])) (q + 1) ⟨by omega, by rw [List.length_append]; exact h37, by rw [take_succ (0, 0) (by omega)]; exact hk3.append (List.Sublist.refl _), by omega, by omega⟩ (by omega) ac_ w_ (hs_.weaken (.cons rfl (.cons rfl (.cons rfl (.cons rfl (.cons rfl (.cons rfl (.nil))))))) (.consE (show blk g6 [.int .i64 (((m : Nat) : Int)), .slice A37 (fs.length + 1) (c37)] 25 = blk g6 [.int .i64 (((m : Nat) : Int)), .slice A37 ((fs ++ ([((es.getD k (0, 0)).1, (es.getD k (0, 0)).2)])).length) (c37)] 25 by rw [List.length_append]; rfl) (.head) (.consE (show row 43 2 A37 (fs.length + 1) (c37) (cells fE (fs ++ ([((es.getD k (0, 0)).1, (es.getD k (0, 0)).2)]))) = row 43 2 A37 ((fs ++ ([((es.getD k (0, 0)).1, (es.getD k (0, 0)).2)])).length) (c37) (cells fE (fs ++ ([((es.getD k (0, 0)).1, (es.getD k (0, 0)).2)]))) by rw [List.length_append]; rfl) (.head) (.cons (.tail (.tail .head)) (.cons (.tail (.tail .head)) (.cons (.tail .head) ((.drop .refl))))))))
      ·
        refine wl_nil ?_
        refine ce_then ?_
        refine cw_false rfl ?_
        refine cw_skip ?_
        refine ce_block ?_
        refine ce_then ?_
        refine cw_region ?_
        refine wl_v (ov_move rfl) rfl rfl rfl ?_
        refine wl_v (ov_add (r := ((k + 1 : Nat) : Int)) rfl rfl rfl (by omega)) rfl rfl rfl ?_
        refine wl_v (ov_assign rfl) rfl rfl rfl ?_
        refine wl_nil ?_
        exact fun ac_ w_ hs_ => hR0 (k + 1) A3 c3 fs (q + 1) ⟨by omega, hk2, hk3.trans (by rw [take_succ (0, 0) (by omega)]; exact List.sublist_append_left _ _), by omega, by omega⟩ (by omega) ac_ w_ (hs_.weaken (.cons rfl (.cons rfl (.cons rfl (.cons rfl (.cons rfl (.cons rfl (.nil))))))) (.cons (.tail .head) (.cons (.tail .head) (.cons (.tail .head) (.cons (.tail .head) (.cons (.head) (.refl)))))))
    ·
      refine wl_nil ?_
      refine ce_then ?_
      refine cw_false rfl ?_
      refine cw_exit ?_
      refine ce_then_exit ?_
      refine ce_then_exit ?_
      refine ce_hit ?_
      refine ce_then ?_
      refine cw_seq ?_
      refine cw_region ?_
      refine wl_v (ov_loadAgg (vs := [.int .i64 (((m : Nat) : Int)), .slice A3 (fs.length) (c3)]) tI25 (holds_blk (List.Mem.head _)) rfl some_lit rfl rfl) rfl rfl rfl ?_
      refine wl_r (or_call (fv := []) (vs := [.agg #[.int .i64 (((m : Nat) : Int)), .slice A3 (fs.length) (c3)]]) (cs := []) en86 rfl rfl (call_x1 (fun w hw => degreesS_c w m A3 fs.length c3 fs ((holds_row (List.Mem.tail _ (List.Mem.head _))) w hw) rfl hk2 (by omega) (by first | assumption | omega | (simp; omega)) (fun e he => hg.inr e (List.mem_of_mem_take (hk3.subset he)))))) rfl rfl (kt1p rfl (fun g_40 h_40 => ?_))
      refine wl_v (ov_assign rfl) rfl rfl rfl ?_
      refine wl_nil ?_
      refine ce_then ?_
      refine cw_seq ?_
      refine cw_seq ?_
      have hfs : ∀ e ∈ fs, 0 ≤ e.1 ∧ e.1 < e.2 ∧ e.2 < ((m : Nat) : Int) := fun e he => hg.inr e (List.mem_of_mem_take (hk3.subset he))
      have hfl := hk3.length_le
      rw [List.length_take] at hfl
      have hsm40 := degs_sm (n := m) hfs (by omega)
      have hdl40 := degs_length m fs
      refine cw_region ?_
      refine wl_v (ov_move rfl) rfl rfl rfl ?_
      refine wl_r (or_call (fv := []) (vs := [elp (some ⟨g, 0, none⟩) (0), .int .i64 (6)]) (cs := []) en50 rfl rfl (call_o (.cons (.tail (.tail (.tail (.tail (.tail .head))))) (.cons (.head) (.cons (.head) (.cons (.head) (.cons (.head) (.cons (.head) (.refl))))))) (fun w hw => pick_c w _ _ _ 6 g Ar nr cr bs q (Holds.keepF hAr ((.drop (.drop (.drop (.drop (.drop .refl))))))) (by first | rfl | assumption | (simp; done) | (simp; omega)) lAr ⟨hy.1, hy.2.1, by omega⟩ (by first | assumption | omega | (simp; omega)) hw))) rfl rfl (kt1p rfl (fun v_42 h_42 => ?_))
      refine wl_nil ?_
      refine ce_then ?_
      refine cw_block ?_
      refine cw_seq ?_
      refine cw_region ?_
      refine wl_if (ov_eql rfl rfl) rfl rfl rfl (fun c44 => ?_) (fun c44 => ?_)
      ·
        refine wl_v (ov_assign rfl) rfl rfl rfl ?_
        refine wl_nil ?_
        refine ce_then ?_
        refine cw_true rfl ?_
        refine cw_seq ?_
        refine cw_draw mixO [] (.cons (.tail (.tail .head)) (.cons (.tail (.tail .head)) (.cons (.tail (.tail (.tail .head))) ((.drop (.drop (.drop .refl))))))) rfl ?_
        refine wg_take (i := 0) rfl (ov_loadAgg (vs := [.int .i64 (((m : Nat) : Int)), .slice A1 (es.length) (c1)]) tI25 (holds_blk (List.Mem.tail _ (List.Mem.tail _ (List.Mem.head _)))) rfl some_lit rfl rfl) rfl rfl rfl (by kernel_rfl) (by kernel_rfl) (by kernel_rfl) (by kernel_rfl) ?_
        refine wg_takep (i := 1) rfl (ov_move rfl) rfl rfl rfl (by kernel_rfl) (by kernel_rfl) (by kernel_rfl) rfl ?_
        refine wg_takep (i := 2) rfl (ov_move rfl) rfl rfl rfl (by kernel_rfl) (by kernel_rfl) (by kernel_rfl) rfl ?_
        refine wg_one (i := 3) (by kernel_rfl) ?_
        refine go_r rfl rfl rfl rfl (or_call (fv := []) (vs := [elp (some ⟨g, 0, none⟩) (0), .slice (some ⟨g_40, 0, none⟩) (m) (m)]) (cs := []) en120 rfl rfl (call_o (.cons (.head) (.cons (.head) (.cons (.head) (.cons (.head) (.cons (.head) (.cons (.head) (.refl))))))) (fun w hw => lifted_c w _ _ _ g Ar nr cr bs (q + 1) (some ⟨g_40, 0, none⟩) m m (degs m fs) (Holds.keepF hAr ((.drop (.drop (.drop (.drop .refl)))))) (by first | rfl | assumption | (simp; done) | (simp; omega)) lAr ⟨hy.1, hy.2.1, by omega⟩ (Nat.le_refl _) hdl40 hsm40 (by omega) hw))) (kt2p rfl (fun ys_48 q_48 h_48 => ?_))
        refine gk (.cons (.tail (.tail .head)) (.cons (.tail (.tail .head)) (.cons (.tail (.tail (.tail .head))) ((.drop (.drop (.drop .refl))))))) ?_
        refine wg_one (i := 4) (by kernel_rfl) ?_
        refine go_r0 rfl rfl rfl rfl (or_store_blk (vs := [.int .i64 (((m : Nat) : Int)), .slice A1 (es.length) (c1)]) (cs' := [.int .i64 (((m : Nat) : Int)), .slice A1 (es.length) (c1)]) (.tail (.tail (.tail (.tail .head)))) tI25 rfl rfl rfl rfl (Nat.le_of_ble_eq_true rfl) rfl) (kn0 ?_)
        refine gk (.cons (.tail (.tail (.tail .head))) (.cons (.tail (.tail (.tail .head))) (.cons (.tail (.tail (.tail .head))) ((.drop (.drop (.drop .refl))))))) ?_
        refine wg_takep (i := 5) rfl (ov_assign rfl) rfl rfl rfl (by kernel_rfl) (by kernel_rfl) (by kernel_rfl) rfl ?_
        refine wg_done (by kernel_rfl) ?_
        refine ce_then ?_
        refine cw_ret ?_
        refine ce_block_ret ?_
        refine ce_then_ret ?_
        refine ce_results (v := .tuple #[.agg #[.int .i64 (((m : Nat) : Int)), .slice A1 (es.length) (c1)], .slice (some ⟨g_40, 0, none⟩) (m) (m)]) (res2 rfl (rv_c rfl tI25 rfl (List.Mem.head _)) (rv_t rfl)) (fun w' hw => ?_)
        exact ⟨some ⟨g_40, 0, none⟩, m, ys_48, q_48, ⟨⟨by omega, by omega, h_48.1.2⟩, by omega, by omega⟩, (by first | rfl | (rw [show (ys_48).length = m from by omega])), ((.consE (show row 3 1 (some ⟨g_40, 0, none⟩) (m) (m) (cells fI ys_48) = row 3 1 (some ⟨g_40, 0, none⟩) ((ys_48).length) (m) (cells fI ys_48) by first | rfl | (rw [show (ys_48).length = m from by omega])) (.tail .head) (.cons (.tail .head) ((.drop (.drop (.drop (.drop .refl)))))) : Keep _ _).ss hw)⟩
      ·
        refine wl_v (ov_assign rfl) rfl rfl rfl ?_
        refine wl_nil ?_
        refine ce_then ?_
        refine cw_false rfl ?_
        refine cw_seq ?_
        refine cw_region ?_
        refine wl_if (ov_eql rfl rfl) rfl rfl rfl (fun c50 => ?_) (fun c50 => ?_)
        ·
          refine wl_v (ov_assign rfl) rfl rfl rfl ?_
          refine wl_nil ?_
          refine ce_then ?_
          refine cw_true rfl ?_
          refine cw_seq ?_
          refine cw_region ?_
          refine wl_v (ov_assign rfl) rfl rfl rfl ?_
          refine wl_nil ?_
          refine ce_then ?_
          refine cw_block ?_
          refine cw_loop2 (fun (v : Nat) (ys : List Int) => [(3, elp (some ⟨g3, 0, none⟩) (0)), (4, elp (some ⟨g4, 0, none⟩) (0)), (5, .slice none (0) (0)), (8, .slice (some ⟨g_40, 0, none⟩) (m) (m)), (9, .int .i64 (((v : Nat) : Int)))]) (fun (v : Nat) (ys : List Int) => (blk g [.slice Ar (nr) (cr), .int .i64 (((q + 1 : Nat) : Int))] 99) :: (row 3 1 (some ⟨g_40, 0, none⟩) (m) (m) (cells fI ys)) :: (blk g6 [.int .i64 (((m : Nat) : Int)), .slice A3 (fs.length) (c3)] 25) :: (row 43 2 A3 (fs.length) (c3) (cells fE fs)) :: (blk g4 [.int .i64 (0), .slice none (0) (0)] 25) :: (blk g3 [.int .i64 (((m : Nat) : Int)), .slice A1 (es.length) (c1)] 25) :: F) (fun (v : Nat) (ys : List Int) => v ≤ m ∧ ys.length = m ∧ Sm ys) (fun (v : Nat) (ys : List Int) => m - v) 0 (degs m fs) ⟨by omega, hdl40, hsm40⟩ (.cons rfl (.cons rfl (.cons rfl (.cons rfl (.cons (congrArg (fun z => some (Value.int .i64 z)) (show 0 = ((0 : Nat) : Int) by first | omega | rfl | (simp; done))) (.nil)))))) (.cons (.head) (.cons (.head) (.cons (.head) (.cons (.head) (.cons (.head) (.cons (.head) (.refl))))))) ?_
          intro R1 v ys hk1 hR1
          obtain ⟨hv1, hyl, hys⟩ := hk1
          refine cw_seq ?_
          refine cw_seq ?_
          refine cw_region ?_
          refine wl_v (ov_move rfl) rfl rfl rfl ?_
          refine wl_v (ov_move rfl) rfl rfl rfl ?_
          refine wl_v (ov_len (sliceI_spec sI31) rfl) rfl rfl rfl ?_
          refine wl_if (ov_lss rfl rfl) rfl rfl rfl (fun c54 => ?_) (fun c54 => ?_)
          ·
            refine wl_nil ?_
            refine ce_then ?_
            refine cw_true rfl ?_
            refine cw_skip ?_
            refine ce_then ?_
            refine cw_seq ?_
            refine cw_block ?_
            refine cw_region ?_
            refine wl_v (ov_move rfl) rfl rfl rfl ?_
            refine wl_v (ov_move rfl) rfl rfl rfl ?_
            refine wl_v (ov_move rfl) rfl rfl rfl ?_
            refine wl_v (ov_len (sliceI_spec sI31) rfl) rfl rfl rfl ?_
            refine wl_v (ov_sub (r := ((m : Nat) : Int) - 1) rfl rfl rfl (by omega)) rfl rfl rfl ?_
            refine wl_v (ov_min (r := min 1 (((m : Nat) : Int) - 1)) rfl rfl (by first | omega | (split <;> omega))) rfl rfl rfl ?_
            refine wl_v (ov_index (k := v) (c := m) sI31 tI3 rfl rfl (some_holds (q := v * 1) (holds_row (List.Mem.tail _ (List.Mem.head _))) (by rw [cells_length fI_len]; have hlt : v < ys.length := (by first | omega | (simp; omega)); omega)) (show v < m from (by first | omega | (simp; omega)))) rfl rfl rfl ?_
            refine wl_r0 (or_store_row (vs := [.int .i64 (min 1 (((m : Nat) : Int) - 1))]) (cs' := cells fI (ys.set v (min 1 (((m : Nat) : Int) - 1)))) (.tail .head) tI3 rfl rfl rfl rfl (by rw [cells_length fI_len]; have hlt := (show v < ys.length from (by first | omega | (simp; omega))); simp only [List.length_cons, List.length_nil]; omega) (by simp) (cells_splice fI_len (show v < ys.length from (by first | omega | (simp; omega))) (min 1 (((m : Nat) : Int) - 1)))) rfl rfl (kn0 ?_)
            refine wl_nil ?_
            refine ce_block ?_
            refine ce_then ?_
            refine cw_region ?_
            refine wl_v (ov_move rfl) rfl rfl rfl ?_
            refine wl_v (ov_add (r := ((v + 1 : Nat) : Int)) rfl rfl rfl (by omega)) rfl rfl rfl ?_
            refine wl_v (ov_assign rfl) rfl rfl rfl ?_
            refine wl_nil ?_
            exact fun ac_ w_ hs_ => hR1 (v + 1) (ys.set v (min 1 (((m : Nat) : Int) - 1))) ⟨by omega, by rw [List.length_set]; exact hyl, hys.set (by omega)⟩ (by omega) ac_ w_ (hs_.weaken (.cons rfl (.cons rfl (.cons rfl (.cons rfl (.cons rfl (.nil)))))) (.cons (.tail .head) (.cons (.head) (.cons (.head) (.cons (.head) (.cons (.head) (.cons (.head) (.refl))))))))
          ·
            refine wl_nil ?_
            refine ce_then ?_
            refine cw_false rfl ?_
            refine cw_exit ?_
            refine ce_then_exit ?_
            refine ce_then_exit ?_
            refine ce_hit ?_
            refine ce_block ?_
            refine ce_then ?_
            refine cw_seq ?_
            refine cw_region ?_
            refine wl_v (ov_loadAgg (vs := [.int .i64 (((m : Nat) : Int)), .slice A1 (es.length) (c1)]) tI25 (holds_blk (List.Mem.tail _ (List.Mem.tail _ (List.Mem.tail _ (List.Mem.tail _ (List.Mem.tail _ (List.Mem.head _))))))) rfl some_lit rfl rfl) rfl rfl rfl ?_
            refine wl_v (ov_move rfl) rfl rfl rfl ?_
            refine wl_r0 (or_store_blk (vs := [.int .i64 (((m : Nat) : Int)), .slice A1 (es.length) (c1)]) (cs' := [.int .i64 (((m : Nat) : Int)), .slice A1 (es.length) (c1)]) (.tail (.tail (.tail (.tail .head)))) tI25 rfl rfl rfl rfl (Nat.le_of_ble_eq_true rfl) rfl) rfl rfl (kn0 ?_)
            refine wl_v (ov_assign rfl) rfl rfl rfl ?_
            refine wl_nil ?_
            refine ce_then ?_
            refine cw_ret ?_
            refine ce_results (v := .tuple #[.agg #[.int .i64 (((m : Nat) : Int)), .slice A1 (es.length) (c1)], .slice (some ⟨g_40, 0, none⟩) (m) (m)]) (res2 rfl (rv_c rfl tI25 rfl (List.Mem.head _)) (rv_t rfl)) (fun w' hw => ?_)
            exact ⟨some ⟨g_40, 0, none⟩, m, ys, q + 1, ⟨⟨by omega, by omega, hys⟩, by omega, by omega⟩, (by first | rfl | (rw [show (ys).length = m from by omega])), ((.consE (show row 3 1 (some ⟨g_40, 0, none⟩) (m) (m) (cells fI ys) = row 3 1 (some ⟨g_40, 0, none⟩) ((ys).length) (m) (cells fI ys) by first | rfl | (rw [show (ys).length = m from by omega])) (.tail (.tail .head)) (.cons (.tail .head) ((.drop (.drop (.drop (.drop .refl)))))) : Keep _ _).ss hw)⟩
        ·
          refine wl_v (ov_assign rfl) rfl rfl rfl ?_
          refine wl_nil ?_
          refine ce_then ?_
          refine cw_false rfl ?_
          refine cw_seq ?_
          refine cw_region ?_
          refine wl_if (ov_eql rfl rfl) rfl rfl rfl (fun c65 => ?_) (fun c65 => ?_)
          ·
            refine wl_v (ov_assign rfl) rfl rfl rfl ?_
            refine wl_nil ?_
            refine ce_then ?_
            refine cw_true rfl ?_
            refine cw_seq ?_
            refine cw_draw mixO [] (.cons (.tail (.tail .head)) (.cons (.tail (.tail .head)) (.cons (.tail (.tail (.tail .head))) ((.drop (.drop (.drop .refl))))))) rfl ?_
            refine wg_take (i := 0) rfl (ov_loadAgg (vs := [.int .i64 (((m : Nat) : Int)), .slice A1 (es.length) (c1)]) tI25 (holds_blk (List.Mem.tail _ (List.Mem.tail _ (List.Mem.head _)))) rfl some_lit rfl rfl) rfl rfl rfl (by kernel_rfl) (by kernel_rfl) (by kernel_rfl) (by kernel_rfl) ?_
            refine wg_takep (i := 1) rfl (ov_move rfl) rfl rfl rfl (by kernel_rfl) (by kernel_rfl) (by kernel_rfl) rfl ?_
            refine wg_takep (i := 2) rfl (ov_move rfl) rfl rfl rfl (by kernel_rfl) (by kernel_rfl) (by kernel_rfl) rfl ?_
            refine wg_one (i := 3) (by kernel_rfl) ?_
            refine go_r rfl rfl rfl rfl (or_call (fv := []) (vs := [elp (some ⟨g, 0, none⟩) (0), .slice (some ⟨g_40, 0, none⟩) (m) (m)]) (cs := []) en107 rfl rfl (call_o (.cons (.head) (.cons (.head) (.cons (.head) (.cons (.head) (.cons (.head) (.cons (.head) (.refl))))))) (fun w hw => bent_c w _ _ _ g Ar nr cr bs (q + 1) (some ⟨g_40, 0, none⟩) m m (degs m fs) (Holds.keepF hAr ((.drop (.drop (.drop (.drop .refl)))))) (by first | rfl | assumption | (simp; done) | (simp; omega)) lAr ⟨hy.1, hy.2.1, by omega⟩ (Nat.le_refl _) hdl40 hsm40 (by omega) hw))) (kt4p rfl (fun A2_69 c2_69 ys_69 q_69 h_69 => ?_))
            refine gk (.cons (.tail (.tail .head)) (.cons (.tail (.tail .head)) (.cons (.tail (.tail (.tail .head))) ((.drop (.drop (.drop .refl))))))) ?_
            refine wg_one (i := 4) (by kernel_rfl) ?_
            refine go_r0 rfl rfl rfl rfl (or_store_blk (vs := [.int .i64 (((m : Nat) : Int)), .slice A1 (es.length) (c1)]) (cs' := [.int .i64 (((m : Nat) : Int)), .slice A1 (es.length) (c1)]) (.tail (.tail (.tail (.tail .head)))) tI25 rfl rfl rfl rfl (Nat.le_of_ble_eq_true rfl) rfl) (kn0 ?_)
            refine gk (.cons (.tail (.tail (.tail .head))) (.cons (.tail (.tail (.tail .head))) (.cons (.tail (.tail (.tail .head))) ((.drop (.drop (.drop .refl))))))) ?_
            refine wg_takep (i := 5) rfl (ov_assign rfl) rfl rfl rfl (by kernel_rfl) (by kernel_rfl) (by kernel_rfl) rfl ?_
            refine wg_done (by kernel_rfl) ?_
            refine ce_then ?_
            refine cw_ret ?_
            refine ce_block_ret ?_
            refine ce_then_ret ?_
            refine ce_results (v := .tuple #[.agg #[.int .i64 (((m : Nat) : Int)), .slice A1 (es.length) (c1)], .slice A2_69 (ys_69.length) (c2_69)]) (res2 rfl (rv_c rfl tI25 rfl (List.Mem.head _)) (rv_t rfl)) (fun w' hw => ?_)
            exact ⟨A2_69, c2_69, ys_69, q_69, ⟨⟨h_69.1.1, by omega, h_69.1.2.2⟩, by omega, by omega⟩, rfl, ((.cons (.tail .head) (.cons (.tail .head) ((.drop (.drop (.drop (.drop .refl)))))) : Keep _ _).ss hw)⟩
          ·
            refine wl_v (ov_assign rfl) rfl rfl rfl ?_
            refine wl_nil ?_
            refine ce_then ?_
            refine cw_false rfl ?_
            refine cw_skip ?_
            refine ce_block ?_
            refine ce_then ?_
            refine cw_seq ?_
            refine cw_region ?_
            refine wl_v (ov_loadAgg (vs := [.int .i64 (((m : Nat) : Int)), .slice A1 (es.length) (c1)]) tI25 (holds_blk (List.Mem.tail _ (List.Mem.tail _ (List.Mem.tail _ (List.Mem.tail _ (List.Mem.tail _ (List.Mem.head _))))))) rfl some_lit rfl rfl) rfl rfl rfl ?_
            refine wl_v (ov_move rfl) rfl rfl rfl ?_
            refine wl_r0 (or_store_blk (vs := [.int .i64 (((m : Nat) : Int)), .slice A1 (es.length) (c1)]) (cs' := [.int .i64 (((m : Nat) : Int)), .slice A1 (es.length) (c1)]) (.tail (.tail (.tail (.tail .head)))) tI25 rfl rfl rfl rfl (Nat.le_of_ble_eq_true rfl) rfl) rfl rfl (kn0 ?_)
            refine wl_v (ov_assign rfl) rfl rfl rfl ?_
            refine wl_nil ?_
            refine ce_then ?_
            refine cw_ret ?_
            refine ce_results (v := .tuple #[.agg #[.int .i64 (((m : Nat) : Int)), .slice A1 (es.length) (c1)], .slice (some ⟨g_40, 0, none⟩) (m) (m)]) (res2 rfl (rv_c rfl tI25 rfl (List.Mem.head _)) (rv_t rfl)) (fun w' hw => ?_)
            exact ⟨some ⟨g_40, 0, none⟩, m, degs m fs, q + 1, ⟨⟨by omega, by omega, hsm40⟩, by omega, by omega⟩, (by first | rfl | (rw [show (degs m fs).length = m from by omega])), ((.consE (show row 3 1 (some ⟨g_40, 0, none⟩) (m) (m) (cells fI (degs m fs)) = row 3 1 (some ⟨g_40, 0, none⟩) ((degs m fs).length) (m) (cells fI (degs m fs)) by first | rfl | (rw [show (degs m fs).length = m from by omega])) (.tail (.tail .head)) (.cons (.tail .head) ((.drop (.drop (.drop (.drop .refl)))))) : Keep _ _).ss hw)⟩
  ·
    refine wl_v (ov_not rfl) rfl rfl rfl ?_
    refine wl_nil ?_
    refine ce_then ?_
    refine cw_true rfl ?_
    refine cw_seq ?_
    refine cw_region ?_
    refine wl_v (ov_loadAgg (vs := [.int .i64 (N), .slice A1 (es.length) (c1)]) tI25 (holds_blk (List.Mem.tail _ (List.Mem.head _))) rfl some_lit rfl rfl) rfl rfl rfl ?_
    refine wl_r (or_buildSlice (e := 3) (size := 1) (is := []) (vs := []) (cs := cells fI ([])) rfl rfl rfl (by decide) (fun _ => by kernel_rfl)) rfl rfl (kt1 rfl (fun g14 => ?_))
    refine wl_r0 (or_store_blk (vs := [.int .i64 (N), .slice A1 (es.length) (c1)]) (cs' := [.int .i64 (N), .slice A1 (es.length) (c1)]) (.tail .head) tI25 rfl rfl rfl rfl (Nat.le_of_ble_eq_true rfl) rfl) rfl rfl (kn0 ?_)
    refine wl_v (ov_assign rfl) rfl rfl rfl ?_
    refine wl_nil ?_
    refine ce_then ?_
    refine cw_ret ?_
    refine ce_then_ret ?_
    refine ce_results (v := .tuple #[.agg #[.int .i64 (N), .slice A1 (es.length) (c1)], .slice (some ⟨g14, 0, none⟩) (0) (0)]) (res2 rfl (rv_c rfl tI25 rfl (List.Mem.head _)) (rv_t rfl)) (fun w' hw => ?_)
    exact ⟨some ⟨g14, 0, none⟩, 0, [], p, ⟨⟨Nat.le_refl _, by decide, fun x hx => by cases hx⟩, by omega, by omega⟩, rfl, ((.cons (.tail .head) (.cons (.tail (.tail .head)) ((.drop (.drop .refl)))) : Keep _ _).ss hw)⟩
end Go.Proofs.Ytfjgfocjogfodaa.W24
