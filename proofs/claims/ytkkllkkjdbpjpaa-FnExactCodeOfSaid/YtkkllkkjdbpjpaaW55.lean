/- Walks of functions of the given program: each returns what its Lean function says and leaves the memory that was there as it was. Conditions: those of each theorem. -/
import Derived.Test.YtkkllkkjdbpjpaaSm
import Derived.Test.YtkkllkkjdbpjpaaProg
import Derived.Test.YtkkllkkjdbpjpaaPl
import Derived.Test.YtkkllkkjdbpjpaaPo
import Derived.Test.YtkkllkkjdbpjpaaPd
import Derived.Test.YtkkllkkjdbpjpaaPe
import Derived.Test.YtkkllkkjdbpjpaaPh
import Derived.Test.YtkkllkkjdbpjpaaPm
import Derived.Test.YtkkllkkjdbpjpaaPc
import Derived.Test.YtkkllkkjdbpjpaaPs
import Derived.Test.YtkkllkkjdbpjpaaPt
import Derived.Test.YtkkllkkjdbpjpaaPu
import Derived.Test.YtkkllkkjdbpjpaaPv
import Derived.Test.YtkkllkkjdbpjpaaPw
import Derived.Test.YtkkllkkjdbpjpaaPx
import Derived.Test.YtkkllkkjdbpjpaaPy
import Derived.Test.YtkkllkkjdbpjpaaPz
import Derived.Test.YtkkllkkjdbpjpaaPr
import Derived.Test.YtkkllkkjdbpjpaaPa
import Derived.Test.YtkkllkkjdbpjpaaPn
import Derived.Test.YtkkllkkjdbpjpaaPj
import Derived.Test.YtkkllkkjdbpjpaaPq
import Derived.Test.YtkkllkkjdbpjpaaSp
import Derived.Test.YtkkllkkjdbpjpaaPp
import Derived.Test.YtkkllkkjdbpjpaaSs
import Derived.Test.YtkkllkkjdbpjpaaSr
import Derived.Test.YtkkllkkjdbpjpaaPb
import Derived.Test.YtkkllkkjdbpjpaaSe
import Derived.Test.YtkkllkkjdbpjpaaSf
import Derived.Test.YtkkllkkjdbpjpaaT
import Derived.Test.YtkkllkkjdbpjpaaW2
import Derived.Test.YtkkllkkjdbpjpaaW3
import Derived.Test.YtkkllkkjdbpjpaaW5
import Derived.Test.YtkkllkkjdbpjpaaW8
import Derived.Test.YtkkllkkjdbpjpaaW13
import Derived.Test.YtkkllkkjdbpjpaaW49
import Derived.KernelRfl
namespace Go.Proofs.Ytkkllkkjdbpjpaa.W55
open Go.Sx Go.RowKit Go.Proofs.Ytkkllkkjdbpjpaa.T Go.Proofs.Ytkkllkkjdbpjpaa.W2 Go.Proofs.Ytkkllkkjdbpjpaa.W3 Go.Proofs.Ytkkllkkjdbpjpaa.W5 Go.Proofs.Ytkkllkkjdbpjpaa.W8 Go.Proofs.Ytkkllkkjdbpjpaa.W13 Go.Proofs.Ytkkllkkjdbpjpaa.W49
open Go.Plain
set_option linter.unusedVariables false
set_option maxRecDepth 100000 in
theorem CodeOfI_c (w : World) (N : Int) (A : Option Addr) (n : Nat) (c : Nat) (es : List (Int × Int)) (hA : At w A (cells fE es)) (eA : es.length = n) (lA : n ≤ c) (hs : es.length ≤ 1048576) (hN : N ≤ 9223372036854775807) : Calls Try.prog 30 #[.agg #[.int .i64 (N), .slice A (n) (c)]] w (Ret fun rv w' => ∃ A2 k2 c2, ((codeC N es).2.1.length ≤ k2) ∧ rv = .tuple #[.string ((codeC N es).1), .slice A2 ((codeC N es).2.1.length) (k2), .bool ((codeC N es).2.2)] ∧ New w w' [row 3 1 A2 ((codeC N es).2.1.length) (c2) (cells fI ((codeC N es).2.1))]) := by
  have oA := hA.atB
  subst eA
  refine fn_enterM (args := [.agg #[.int .i64 (N), .slice A (es.length) (c)]]) Try.func30 rfl Try.ntmps30 rfl (SS.start w) ?_
  refine ct_def0 ?_
  refine cw_seq ?_
  refine cw_region ?_
  refine wl_r (or_box rfl rfl) rfl rfl (kt1 rfl (fun g1 => ?_))
  refine wl_v (ov_assign rfl) rfl rfl rfl ?_
  refine wl_v (ov_assign rfl) rfl rfl rfl ?_
  refine wl_v (ov_assign rfl) rfl rfl rfl ?_
  refine wl_nil ?_
  refine ce_then ?_
  refine cw_seq ?_
  refine cw_seq ?_
  refine cw_region ?_
  refine wl_v (ov_loadAgg (vs := [.int .i64 (N), .slice A (es.length) (c)]) tI25 (holds_blk (List.Mem.head _)) rfl some_lit rfl rfl) rfl rfl rfl ?_
  refine wl_r (or_call (fv := []) (vs := [.agg #[.int .i64 (N), .slice A (es.length) (c)]]) (cs := []) en12 rfl rfl (call_v (fun w hw => validGraphI_c w N A es.length c es ((holds_old oA) w hw) rfl lA (by first | assumption | omega | (simp; omega)) (by first | assumption | omega | (simp; omega))))) rfl rfl (kt_if rfl (fun c14 => ?_) (fun c14 => ?_))
  ·
    refine wl_v (ov_not rfl) rfl rfl rfl ?_
    refine wl_v (ov_move rfl) rfl rfl rfl ?_
    refine wl_go rfl rfl ?_
    refine wl_v (ov_fieldAddr fI25_0 some_lit rfl) rfl rfl rfl ?_
    refine wl_go rfl rfl ?_
    refine wl_v (ov_load tI3 (holds_blk (List.Mem.head _)) rfl rfl) rfl rfl rfl ?_
    refine wl_go rfl rfl ?_
    refine wl_if (ov_eql rfl rfl) rfl rfl rfl (fun c19 => ?_) (fun c19 => ?_)
    ·
      refine wl_v (ov_pick_f rfl rfl) rfl rfl rfl ?_
      refine wl_nil ?_
      refine ce_then ?_
      refine cw_true rfl ?_
      refine cw_seq ?_
      have hv : codeC N es = (bstr [], [], false) := codeC_no (fun h => h.2 c19)
      refine ct_none fI 3 1 ?_
      refine cw_region ?_
      refine wl_v (ov_assign rfl) rfl rfl rfl ?_
      refine wl_v (ov_assign rfl) rfl rfl rfl ?_
      refine wl_v (ov_assign rfl) rfl rfl rfl ?_
      refine wl_nil ?_
      refine ce_then ?_
      refine cw_ret ?_
      refine ce_then_ret ?_
      refine ce_resultsM (rs := []) (.tail (.tail .head)) (v := .tuple #[.string (bstr []), .slice none (0) (0), .bool false]) (res3 rfl (rv_t rfl) (rv_t rfl) (rv_t rfl)) (fun w' hw => ?_)
      exact ⟨none, 0, 0, (by rw [hv]; exact Nat.le_refl _), (by rw [hv] <;> rfl), ((.consE (show row 3 1 none (0) (0) (cells fI ([])) = row 3 1 none ((codeC N es).2.1.length) (0) (cells fI ((codeC N es).2.1)) by rw [hv] <;> rfl) (.head) (.nil) : Keep _ _).ss hw).to_new⟩
    ·
      refine wl_v (ov_pick_f rfl rfl) rfl rfl rfl ?_
      refine wl_nil ?_
      refine ce_then ?_
      refine cw_false rfl ?_
      refine cw_skip ?_
      refine ce_then ?_
      refine cw_seq ?_
      obtain ⟨m, rfl⟩ := Int.eq_ofNat_of_zero_le (show 0 ≤ N from c14.2.1)
      have hg : Gr m es := by have h9 := c14.gr; rwa [Int.toNat_natCast] at h9
      have hm : m ≤ 7 := by have h9 := c14.2.2; omega
      have hel := hg.len (by omega)
      have hm0 : 0 < m := by omega
      have hil := idx_idsC m
      have hill := congrArg List.length hil
      rw [ids_lenC] at hill
      refine cw_region ?_
      refine wl_v (ov_fieldAddr fI25_0 some_lit rfl) rfl rfl rfl ?_
      refine wl_v (ov_load tI3 (holds_blk (List.Mem.head _)) rfl rfl) rfl rfl rfl ?_
      refine wl_r (or_call (fv := []) (vs := [.int .i64 (((m : Nat) : Int)), .int .i64 (-1)]) (cs := []) en68 rfl rfl (call_x2 (fun w hw => indices_c w m (-1) (by omega)))) rfl rfl (kt2p rfl (fun A2_23 c2_23 h_23 => ?_))
      refine wl_r (or_alloc tI38 rfl) rfl rfl (kt1 rfl (fun g5 => ?_))
      refine wl_r0 (or_store_blk (vs := [.slice A2_23 ((idx m (-1)).length) (c2_23)]) (cs' := [.slice A2_23 ((idx m (-1)).length) (c2_23)]) (.head) tI38 rfl rfl rfl rfl (Nat.le_of_ble_eq_true rfl) rfl) rfl rfl (kn0 ?_)
      refine wl_nil ?_
      refine ce_then ?_
      refine cw_cut4 (fun (g6 : Nat) (g7 : Nat) (g26 : Nat) (g29 : Nat) => [(1, elp (some ⟨g1, 0, none⟩) (0)), (2, .string (bstr [])), (3, .slice none (0) (0)), (4, .bool false), (5, elp (some ⟨g5, 0, none⟩) (0)), (6, elp (some ⟨g6, 0, none⟩) (0)), (7, elp (some ⟨g7, 0, none⟩) (0))]) (fun (g6 : Nat) (g7 : Nat) (g26 : Nat) (g29 : Nat) => [blk g5 [.slice A2_23 ((idx m (-1)).length) (c2_23)] 38, row 3 1 A2_23 ((idx m (-1)).length) (c2_23) (cells fI (idx m (-1))), blk g1 [.int .i64 (((m : Nat) : Int)), .slice A (es.length) (c)] 25, defE ([]), blk g6 [.slice (some ⟨g26, 0, none⟩) (m) (m)] 22, blk g7 [.slice (some ⟨g29, 0, none⟩) (m) (m)] 38, row 5 1 (some ⟨g26, 0, none⟩) (m) (m) (cells fY (List.replicate m 0)), row 3 1 (some ⟨g29, 0, none⟩) (m) (m) (cells fI (List.replicate m 0))]) (fun (g6 : Nat) (g7 : Nat) (g26 : Nat) (g29 : Nat) => True) (fun K5 hK5 => ?_) ?_
      ·
        refine cw_draw mixO [] (.cons (.head) (.cons (.head) (.cons (.head) (.cons (.head) (.nil))))) rfl ?_
        refine wg_take (i := 0) rfl (ov_fieldAddr fI25_0 some_lit rfl) rfl rfl rfl (by kernel_rfl) (by kernel_rfl) (by kernel_rfl) (by kernel_rfl) ?_
        refine wg_take (i := 1) rfl (ov_load tI3 (holds_blk (List.Mem.tail _ (List.Mem.tail _ (List.Mem.head _)))) rfl rfl) rfl rfl rfl (by kernel_rfl) (by kernel_rfl) (by kernel_rfl) (by kernel_rfl) ?_
        refine wg_take (i := 3) rfl (ov_fieldAddr fI25_0 some_lit rfl) rfl rfl rfl (by kernel_rfl) (by kernel_rfl) (by kernel_rfl) (by kernel_rfl) ?_
        refine wg_take (i := 4) rfl (ov_load tI3 (holds_blk (List.Mem.tail _ (List.Mem.tail _ (List.Mem.head _)))) rfl rfl) rfl rfl rfl (by kernel_rfl) (by kernel_rfl) (by kernel_rfl) (by kernel_rfl) ?_
        refine wg_four (i1 := 2) (i2 := 5) (i3 := 6) (i4 := 7) (by kernel_rfl) ?_ ?_ ?_ ?_
        ·
          refine go_r rfl rfl rfl rfl (or_makeSlice (m := m) sI22 tI5 rfl rfl (made_fY _) (by omega) (show m ≤ maxLen by simp only [maxLen]; omega)) (kt1 rfl (fun g26 => ?_))
          refine gk (.cons (.tail .head) (.cons (.tail .head) (.cons (.tail .head) (.cons (.tail .head) (.nil))))) ?_
          refine wg_three (i1 := 5) (i2 := 6) (i3 := 7) (by kernel_rfl) ?_ ?_ ?_
          ·
            refine go_r rfl rfl rfl rfl (or_makeSlice (m := m) sI38 tI3 rfl rfl (made_fI _) (by omega) (show m ≤ maxLen by simp only [maxLen]; omega)) (kt1 rfl (fun g29 => ?_))
            refine gk (.cons (.tail (.tail .head)) (.cons (.tail (.tail .head)) (.cons (.tail (.tail .head)) (.cons (.tail (.tail .head)) (.nil))))) ?_
            refine wg_two (i := 6) (j := 7) (by kernel_rfl) ?_ ?_
            ·
              refine go_r rfl rfl rfl rfl (or_alloc tI22 rfl) (kt1 rfl (fun g6 => ?_))
              refine gk (.cons (.tail (.tail (.tail .head))) (.cons (.tail (.tail (.tail .head))) (.cons (.tail (.tail (.tail .head))) (.cons (.tail (.tail (.tail .head))) (.nil))))) ?_
              refine wg_one (i := 7) (by kernel_rfl) ?_
              refine go_r rfl rfl rfl rfl (or_alloc tI38 rfl) (kt1 rfl (fun g7 => ?_))
              refine gk (.cons (.tail (.tail (.tail (.tail .head)))) (.cons (.tail (.tail (.tail (.tail .head)))) (.cons (.tail (.tail (.tail (.tail .head)))) (.cons (.tail (.tail (.tail (.tail .head)))) (.nil))))) ?_
              refine wg_one (i := 8) (by kernel_rfl) ?_
              refine go_r0 rfl rfl rfl rfl (or_store_blk (vs := [.slice (some ⟨g26, 0, none⟩) (m) (m)]) (cs' := [.slice (some ⟨g26, 0, none⟩) (m) (m)]) (.tail .head) tI22 rfl rfl rfl rfl (Nat.le_of_ble_eq_true rfl) rfl) (kn0 ?_)
              refine gk (.cons (.tail (.tail (.tail (.tail .head)))) (.cons (.tail (.tail (.tail (.tail .head)))) (.cons (.tail (.tail (.tail (.tail .head)))) (.cons (.tail (.tail (.tail (.tail .head)))) (.nil))))) ?_
              refine wg_one (i := 9) (by kernel_rfl) ?_
              refine go_r0 rfl rfl rfl rfl (or_store_blk (vs := [.slice (some ⟨g29, 0, none⟩) (m) (m)]) (cs' := [.slice (some ⟨g29, 0, none⟩) (m) (m)]) (.tail .head) tI38 rfl rfl rfl rfl (Nat.le_of_ble_eq_true rfl) rfl) (kn0 ?_)
              refine gk (.cons (.tail (.tail (.tail (.tail .head)))) (.cons (.tail (.tail (.tail (.tail .head)))) (.cons (.tail (.tail (.tail (.tail .head)))) (.cons (.tail (.tail (.tail (.tail .head)))) (.nil))))) ?_
              refine wg_done (by kernel_rfl) ?_
              exact fun ac_ w_ hs_ => hK5 g6 g7 g26 g29 trivial ac_ w_ (hs_.weaken (.cons rfl (.cons rfl (.cons rfl (.cons rfl (.cons rfl (.cons rfl (.cons rfl (.nil)))))))) (.cons (.tail (.tail (.tail (.tail .head)))) (.cons (.tail (.tail (.tail (.tail .head)))) (.cons (.tail (.tail (.tail (.tail .head)))) (.cons (.tail (.tail (.tail (.tail .head)))) (.cons (.tail .head) (.cons (.head) (.cons (.tail .head) (.cons (.head) (.nil))))))))))
            ·
              refine go_r rfl rfl rfl rfl (or_alloc tI38 rfl) (kt1 rfl (fun g7 => ?_))
              refine gk (.cons (.tail (.tail (.tail .head))) (.cons (.tail (.tail (.tail .head))) (.cons (.tail (.tail (.tail .head))) (.cons (.tail (.tail (.tail .head))) (.nil))))) ?_
              refine wg_one (i := 6) (by kernel_rfl) ?_
              refine go_r rfl rfl rfl rfl (or_alloc tI22 rfl) (kt1 rfl (fun g6 => ?_))
              refine gk (.cons (.tail (.tail (.tail (.tail .head)))) (.cons (.tail (.tail (.tail (.tail .head)))) (.cons (.tail (.tail (.tail (.tail .head)))) (.cons (.tail (.tail (.tail (.tail .head)))) (.nil))))) ?_
              refine wg_one (i := 8) (by kernel_rfl) ?_
              refine go_r0 rfl rfl rfl rfl (or_store_blk (vs := [.slice (some ⟨g26, 0, none⟩) (m) (m)]) (cs' := [.slice (some ⟨g26, 0, none⟩) (m) (m)]) (.head) tI22 rfl rfl rfl rfl (Nat.le_of_ble_eq_true rfl) rfl) (kn0 ?_)
              refine gk (.cons (.tail (.tail (.tail (.tail .head)))) (.cons (.tail (.tail (.tail (.tail .head)))) (.cons (.tail (.tail (.tail (.tail .head)))) (.cons (.tail (.tail (.tail (.tail .head)))) (.nil))))) ?_
              refine wg_one (i := 9) (by kernel_rfl) ?_
              refine go_r0 rfl rfl rfl rfl (or_store_blk (vs := [.slice (some ⟨g29, 0, none⟩) (m) (m)]) (cs' := [.slice (some ⟨g29, 0, none⟩) (m) (m)]) (.tail .head) tI38 rfl rfl rfl rfl (Nat.le_of_ble_eq_true rfl) rfl) (kn0 ?_)
              refine gk (.cons (.tail (.tail (.tail (.tail .head)))) (.cons (.tail (.tail (.tail (.tail .head)))) (.cons (.tail (.tail (.tail (.tail .head)))) (.cons (.tail (.tail (.tail (.tail .head)))) (.nil))))) ?_
              refine wg_done (by kernel_rfl) ?_
              exact fun ac_ w_ hs_ => hK5 g6 g7 g26 g29 trivial ac_ w_ (hs_.weaken (.cons rfl (.cons rfl (.cons rfl (.cons rfl (.cons rfl (.cons rfl (.cons rfl (.nil)))))))) (.cons (.tail (.tail (.tail (.tail .head)))) (.cons (.tail (.tail (.tail (.tail .head)))) (.cons (.tail (.tail (.tail (.tail .head)))) (.cons (.tail (.tail (.tail (.tail .head)))) (.cons (.tail .head) (.cons (.head) (.cons (.tail .head) (.cons (.head) (.nil))))))))))
          ·
            refine go_r rfl rfl rfl rfl (or_alloc tI22 rfl) (kt1 rfl (fun g6 => ?_))
            refine gk (.cons (.tail (.tail .head)) (.cons (.tail (.tail .head)) (.cons (.tail (.tail .head)) (.cons (.tail (.tail .head)) (.nil))))) ?_
            refine wg_two (i := 5) (j := 7) (by kernel_rfl) ?_ ?_
            ·
              refine go_r rfl rfl rfl rfl (or_makeSlice (m := m) sI38 tI3 rfl rfl (made_fI _) (by omega) (show m ≤ maxLen by simp only [maxLen]; omega)) (kt1 rfl (fun g29 => ?_))
              refine gk (.cons (.tail (.tail (.tail .head))) (.cons (.tail (.tail (.tail .head))) (.cons (.tail (.tail (.tail .head))) (.cons (.tail (.tail (.tail .head))) (.nil))))) ?_
              refine wg_one (i := 7) (by kernel_rfl) ?_
              refine go_r rfl rfl rfl rfl (or_alloc tI38 rfl) (kt1 rfl (fun g7 => ?_))
              refine gk (.cons (.tail (.tail (.tail (.tail .head)))) (.cons (.tail (.tail (.tail (.tail .head)))) (.cons (.tail (.tail (.tail (.tail .head)))) (.cons (.tail (.tail (.tail (.tail .head)))) (.nil))))) ?_
              refine wg_one (i := 8) (by kernel_rfl) ?_
              refine go_r0 rfl rfl rfl rfl (or_store_blk (vs := [.slice (some ⟨g26, 0, none⟩) (m) (m)]) (cs' := [.slice (some ⟨g26, 0, none⟩) (m) (m)]) (.tail (.tail .head)) tI22 rfl rfl rfl rfl (Nat.le_of_ble_eq_true rfl) rfl) (kn0 ?_)
              refine gk (.cons (.tail (.tail (.tail (.tail .head)))) (.cons (.tail (.tail (.tail (.tail .head)))) (.cons (.tail (.tail (.tail (.tail .head)))) (.cons (.tail (.tail (.tail (.tail .head)))) (.nil))))) ?_
              refine wg_one (i := 9) (by kernel_rfl) ?_
              refine go_r0 rfl rfl rfl rfl (or_store_blk (vs := [.slice (some ⟨g29, 0, none⟩) (m) (m)]) (cs' := [.slice (some ⟨g29, 0, none⟩) (m) (m)]) (.tail .head) tI38 rfl rfl rfl rfl (Nat.le_of_ble_eq_true rfl) rfl) (kn0 ?_)
              refine gk (.cons (.tail (.tail (.tail (.tail .head)))) (.cons (.tail (.tail (.tail (.tail .head)))) (.cons (.tail (.tail (.tail (.tail .head)))) (.cons (.tail (.tail (.tail (.tail .head)))) (.nil))))) ?_
              refine wg_done (by kernel_rfl) ?_
              exact fun ac_ w_ hs_ => hK5 g6 g7 g26 g29 trivial ac_ w_ (hs_.weaken (.cons rfl (.cons rfl (.cons rfl (.cons rfl (.cons rfl (.cons rfl (.cons rfl (.nil)))))))) (.cons (.tail (.tail (.tail (.tail .head)))) (.cons (.tail (.tail (.tail (.tail .head)))) (.cons (.tail (.tail (.tail (.tail .head)))) (.cons (.tail (.tail (.tail (.tail .head)))) (.cons (.tail .head) (.cons (.head) (.cons (.tail .head) (.cons (.head) (.nil))))))))))
            ·
              refine go_r rfl rfl rfl rfl (or_alloc tI38 rfl) (kt1 rfl (fun g7 => ?_))
              refine gk (.cons (.tail (.tail (.tail .head))) (.cons (.tail (.tail (.tail .head))) (.cons (.tail (.tail (.tail .head))) (.cons (.tail (.tail (.tail .head))) (.nil))))) ?_
              refine wg_two (i := 5) (j := 8) (by kernel_rfl) ?_ ?_
              ·
                refine go_r rfl rfl rfl rfl (or_makeSlice (m := m) sI38 tI3 rfl rfl (made_fI _) (by omega) (show m ≤ maxLen by simp only [maxLen]; omega)) (kt1 rfl (fun g29 => ?_))
                refine gk (.cons (.tail (.tail (.tail (.tail .head)))) (.cons (.tail (.tail (.tail (.tail .head)))) (.cons (.tail (.tail (.tail (.tail .head)))) (.cons (.tail (.tail (.tail (.tail .head)))) (.nil))))) ?_
                refine wg_one (i := 8) (by kernel_rfl) ?_
                refine go_r0 rfl rfl rfl rfl (or_store_blk (vs := [.slice (some ⟨g26, 0, none⟩) (m) (m)]) (cs' := [.slice (some ⟨g26, 0, none⟩) (m) (m)]) (.tail (.tail .head)) tI22 rfl rfl rfl rfl (Nat.le_of_ble_eq_true rfl) rfl) (kn0 ?_)
                refine gk (.cons (.tail (.tail (.tail (.tail .head)))) (.cons (.tail (.tail (.tail (.tail .head)))) (.cons (.tail (.tail (.tail (.tail .head)))) (.cons (.tail (.tail (.tail (.tail .head)))) (.nil))))) ?_
                refine wg_one (i := 9) (by kernel_rfl) ?_
                refine go_r0 rfl rfl rfl rfl (or_store_blk (vs := [.slice (some ⟨g29, 0, none⟩) (m) (m)]) (cs' := [.slice (some ⟨g29, 0, none⟩) (m) (m)]) (.tail (.tail .head)) tI38 rfl rfl rfl rfl (Nat.le_of_ble_eq_true rfl) rfl) (kn0 ?_)
                refine gk (.cons (.tail (.tail (.tail (.tail .head)))) (.cons (.tail (.tail (.tail (.tail .head)))) (.cons (.tail (.tail (.tail (.tail .head)))) (.cons (.tail (.tail (.tail (.tail .head)))) (.nil))))) ?_
                refine wg_done (by kernel_rfl) ?_
                exact fun ac_ w_ hs_ => hK5 g6 g7 g26 g29 trivial ac_ w_ (hs_.weaken (.cons rfl (.cons rfl (.cons rfl (.cons rfl (.cons rfl (.cons rfl (.cons rfl (.nil)))))))) (.cons (.tail (.tail (.tail (.tail .head)))) (.cons (.tail (.tail (.tail (.tail .head)))) (.cons (.tail (.tail (.tail (.tail .head)))) (.cons (.tail (.tail (.tail (.tail .head)))) (.cons (.tail .head) (.cons (.head) (.cons (.tail .head) (.cons (.head) (.nil))))))))))
              ·
                refine go_r0 rfl rfl rfl rfl (or_store_blk (vs := [.slice (some ⟨g26, 0, none⟩) (m) (m)]) (cs' := [.slice (some ⟨g26, 0, none⟩) (m) (m)]) (.tail .head) tI22 rfl rfl rfl rfl (Nat.le_of_ble_eq_true rfl) rfl) (kn0 ?_)
                refine gk (.cons (.tail (.tail (.tail .head))) (.cons (.tail (.tail (.tail .head))) (.cons (.tail (.tail (.tail .head))) (.cons (.tail (.tail (.tail .head))) (.nil))))) ?_
                refine wg_one (i := 5) (by kernel_rfl) ?_
                refine go_r rfl rfl rfl rfl (or_makeSlice (m := m) sI38 tI3 rfl rfl (made_fI _) (by omega) (show m ≤ maxLen by simp only [maxLen]; omega)) (kt1 rfl (fun g29 => ?_))
                refine gk (.cons (.tail (.tail (.tail (.tail .head)))) (.cons (.tail (.tail (.tail (.tail .head)))) (.cons (.tail (.tail (.tail (.tail .head)))) (.cons (.tail (.tail (.tail (.tail .head)))) (.nil))))) ?_
                refine wg_one (i := 9) (by kernel_rfl) ?_
                refine go_r0 rfl rfl rfl rfl (or_store_blk (vs := [.slice (some ⟨g29, 0, none⟩) (m) (m)]) (cs' := [.slice (some ⟨g29, 0, none⟩) (m) (m)]) (.tail (.tail .head)) tI38 rfl rfl rfl rfl (Nat.le_of_ble_eq_true rfl) rfl) (kn0 ?_)
                refine gk (.cons (.tail (.tail (.tail (.tail .head)))) (.cons (.tail (.tail (.tail (.tail .head)))) (.cons (.tail (.tail (.tail (.tail .head)))) (.cons (.tail (.tail (.tail (.tail .head)))) (.nil))))) ?_
                refine wg_done (by kernel_rfl) ?_
                exact fun ac_ w_ hs_ => hK5 g6 g7 g26 g29 trivial ac_ w_ (hs_.weaken (.cons rfl (.cons rfl (.cons rfl (.cons rfl (.cons rfl (.cons rfl (.cons rfl (.nil)))))))) (.cons (.tail (.tail (.tail (.tail .head)))) (.cons (.tail (.tail (.tail (.tail .head)))) (.cons (.tail (.tail (.tail (.tail .head)))) (.cons (.tail (.tail (.tail (.tail .head)))) (.cons (.tail (.tail .head)) (.cons (.head) (.cons (.tail .head) (.cons (.head) (.nil))))))))))
          ·
            refine go_r rfl rfl rfl rfl (or_alloc tI38 rfl) (kt1 rfl (fun g7 => ?_))
            refine gk (.cons (.tail (.tail .head)) (.cons (.tail (.tail .head)) (.cons (.tail (.tail .head)) (.cons (.tail (.tail .head)) (.nil))))) ?_
            refine wg_two (i := 5) (j := 6) (by kernel_rfl) ?_ ?_
            ·
              refine go_r rfl rfl rfl rfl (or_makeSlice (m := m) sI38 tI3 rfl rfl (made_fI _) (by omega) (show m ≤ maxLen by simp only [maxLen]; omega)) (kt1 rfl (fun g29 => ?_))
              refine gk (.cons (.tail (.tail (.tail .head))) (.cons (.tail (.tail (.tail .head))) (.cons (.tail (.tail (.tail .head))) (.cons (.tail (.tail (.tail .head))) (.nil))))) ?_
              refine wg_one (i := 6) (by kernel_rfl) ?_
              refine go_r rfl rfl rfl rfl (or_alloc tI22 rfl) (kt1 rfl (fun g6 => ?_))
              refine gk (.cons (.tail (.tail (.tail (.tail .head)))) (.cons (.tail (.tail (.tail (.tail .head)))) (.cons (.tail (.tail (.tail (.tail .head)))) (.cons (.tail (.tail (.tail (.tail .head)))) (.nil))))) ?_
              refine wg_one (i := 8) (by kernel_rfl) ?_
              refine go_r0 rfl rfl rfl rfl (or_store_blk (vs := [.slice (some ⟨g26, 0, none⟩) (m) (m)]) (cs' := [.slice (some ⟨g26, 0, none⟩) (m) (m)]) (.head) tI22 rfl rfl rfl rfl (Nat.le_of_ble_eq_true rfl) rfl) (kn0 ?_)
              refine gk (.cons (.tail (.tail (.tail (.tail .head)))) (.cons (.tail (.tail (.tail (.tail .head)))) (.cons (.tail (.tail (.tail (.tail .head)))) (.cons (.tail (.tail (.tail (.tail .head)))) (.nil))))) ?_
              refine wg_one (i := 9) (by kernel_rfl) ?_
              refine go_r0 rfl rfl rfl rfl (or_store_blk (vs := [.slice (some ⟨g29, 0, none⟩) (m) (m)]) (cs' := [.slice (some ⟨g29, 0, none⟩) (m) (m)]) (.tail (.tail .head)) tI38 rfl rfl rfl rfl (Nat.le_of_ble_eq_true rfl) rfl) (kn0 ?_)
              refine gk (.cons (.tail (.tail (.tail (.tail .head)))) (.cons (.tail (.tail (.tail (.tail .head)))) (.cons (.tail (.tail (.tail (.tail .head)))) (.cons (.tail (.tail (.tail (.tail .head)))) (.nil))))) ?_
              refine wg_done (by kernel_rfl) ?_
              exact fun ac_ w_ hs_ => hK5 g6 g7 g26 g29 trivial ac_ w_ (hs_.weaken (.cons rfl (.cons rfl (.cons rfl (.cons rfl (.cons rfl (.cons rfl (.cons rfl (.nil)))))))) (.cons (.tail (.tail (.tail (.tail .head)))) (.cons (.tail (.tail (.tail (.tail .head)))) (.cons (.tail (.tail (.tail (.tail .head)))) (.cons (.tail (.tail (.tail (.tail .head)))) (.cons (.tail .head) (.cons (.head) (.cons (.tail .head) (.cons (.head) (.nil))))))))))
            ·
              refine go_r rfl rfl rfl rfl (or_alloc tI22 rfl) (kt1 rfl (fun g6 => ?_))
              refine gk (.cons (.tail (.tail (.tail .head))) (.cons (.tail (.tail (.tail .head))) (.cons (.tail (.tail (.tail .head))) (.cons (.tail (.tail (.tail .head))) (.nil))))) ?_
              refine wg_two (i := 5) (j := 8) (by kernel_rfl) ?_ ?_
              ·
                refine go_r rfl rfl rfl rfl (or_makeSlice (m := m) sI38 tI3 rfl rfl (made_fI _) (by omega) (show m ≤ maxLen by simp only [maxLen]; omega)) (kt1 rfl (fun g29 => ?_))
                refine gk (.cons (.tail (.tail (.tail (.tail .head)))) (.cons (.tail (.tail (.tail (.tail .head)))) (.cons (.tail (.tail (.tail (.tail .head)))) (.cons (.tail (.tail (.tail (.tail .head)))) (.nil))))) ?_
                refine wg_one (i := 8) (by kernel_rfl) ?_
                refine go_r0 rfl rfl rfl rfl (or_store_blk (vs := [.slice (some ⟨g26, 0, none⟩) (m) (m)]) (cs' := [.slice (some ⟨g26, 0, none⟩) (m) (m)]) (.tail .head) tI22 rfl rfl rfl rfl (Nat.le_of_ble_eq_true rfl) rfl) (kn0 ?_)
                refine gk (.cons (.tail (.tail (.tail (.tail .head)))) (.cons (.tail (.tail (.tail (.tail .head)))) (.cons (.tail (.tail (.tail (.tail .head)))) (.cons (.tail (.tail (.tail (.tail .head)))) (.nil))))) ?_
                refine wg_one (i := 9) (by kernel_rfl) ?_
                refine go_r0 rfl rfl rfl rfl (or_store_blk (vs := [.slice (some ⟨g29, 0, none⟩) (m) (m)]) (cs' := [.slice (some ⟨g29, 0, none⟩) (m) (m)]) (.tail (.tail .head)) tI38 rfl rfl rfl rfl (Nat.le_of_ble_eq_true rfl) rfl) (kn0 ?_)
                refine gk (.cons (.tail (.tail (.tail (.tail .head)))) (.cons (.tail (.tail (.tail (.tail .head)))) (.cons (.tail (.tail (.tail (.tail .head)))) (.cons (.tail (.tail (.tail (.tail .head)))) (.nil))))) ?_
                refine wg_done (by kernel_rfl) ?_
                exact fun ac_ w_ hs_ => hK5 g6 g7 g26 g29 trivial ac_ w_ (hs_.weaken (.cons rfl (.cons rfl (.cons rfl (.cons rfl (.cons rfl (.cons rfl (.cons rfl (.nil)))))))) (.cons (.tail (.tail (.tail (.tail .head)))) (.cons (.tail (.tail (.tail (.tail .head)))) (.cons (.tail (.tail (.tail (.tail .head)))) (.cons (.tail (.tail (.tail (.tail .head)))) (.cons (.tail .head) (.cons (.head) (.cons (.tail .head) (.cons (.head) (.nil))))))))))
              ·
                refine go_r0 rfl rfl rfl rfl (or_store_blk (vs := [.slice (some ⟨g26, 0, none⟩) (m) (m)]) (cs' := [.slice (some ⟨g26, 0, none⟩) (m) (m)]) (.head) tI22 rfl rfl rfl rfl (Nat.le_of_ble_eq_true rfl) rfl) (kn0 ?_)
                refine gk (.cons (.tail (.tail (.tail .head))) (.cons (.tail (.tail (.tail .head))) (.cons (.tail (.tail (.tail .head))) (.cons (.tail (.tail (.tail .head))) (.nil))))) ?_
                refine wg_one (i := 5) (by kernel_rfl) ?_
                refine go_r rfl rfl rfl rfl (or_makeSlice (m := m) sI38 tI3 rfl rfl (made_fI _) (by omega) (show m ≤ maxLen by simp only [maxLen]; omega)) (kt1 rfl (fun g29 => ?_))
                refine gk (.cons (.tail (.tail (.tail (.tail .head)))) (.cons (.tail (.tail (.tail (.tail .head)))) (.cons (.tail (.tail (.tail (.tail .head)))) (.cons (.tail (.tail (.tail (.tail .head)))) (.nil))))) ?_
                refine wg_one (i := 9) (by kernel_rfl) ?_
                refine go_r0 rfl rfl rfl rfl (or_store_blk (vs := [.slice (some ⟨g29, 0, none⟩) (m) (m)]) (cs' := [.slice (some ⟨g29, 0, none⟩) (m) (m)]) (.tail (.tail .head)) tI38 rfl rfl rfl rfl (Nat.le_of_ble_eq_true rfl) rfl) (kn0 ?_)
                refine gk (.cons (.tail (.tail (.tail (.tail .head)))) (.cons (.tail (.tail (.tail (.tail .head)))) (.cons (.tail (.tail (.tail (.tail .head)))) (.cons (.tail (.tail (.tail (.tail .head)))) (.nil))))) ?_
                refine wg_done (by kernel_rfl) ?_
                exact fun ac_ w_ hs_ => hK5 g6 g7 g26 g29 trivial ac_ w_ (hs_.weaken (.cons rfl (.cons rfl (.cons rfl (.cons rfl (.cons rfl (.cons rfl (.cons rfl (.nil)))))))) (.cons (.tail (.tail (.tail (.tail .head)))) (.cons (.tail (.tail (.tail (.tail .head)))) (.cons (.tail (.tail (.tail (.tail .head)))) (.cons (.tail (.tail (.tail (.tail .head)))) (.cons (.tail (.tail .head)) (.cons (.head) (.cons (.tail .head) (.cons (.head) (.nil))))))))))
        ·
          refine go_r rfl rfl rfl rfl (or_makeSlice (m := m) sI38 tI3 rfl rfl (made_fI _) (by omega) (show m ≤ maxLen by simp only [maxLen]; omega)) (kt1 rfl (fun g29 => ?_))
          refine gk (.cons (.tail .head) (.cons (.tail .head) (.cons (.tail .head) (.cons (.tail .head) (.nil))))) ?_
          refine wg_three (i1 := 2) (i2 := 6) (i3 := 7) (by kernel_rfl) ?_ ?_ ?_
          ·
            refine go_r rfl rfl rfl rfl (or_makeSlice (m := m) sI22 tI5 rfl rfl (made_fY _) (by omega) (show m ≤ maxLen by simp only [maxLen]; omega)) (kt1 rfl (fun g26 => ?_))
            refine gk (.cons (.tail (.tail .head)) (.cons (.tail (.tail .head)) (.cons (.tail (.tail .head)) (.cons (.tail (.tail .head)) (.nil))))) ?_
            refine wg_two (i := 6) (j := 7) (by kernel_rfl) ?_ ?_
            ·
              refine go_r rfl rfl rfl rfl (or_alloc tI22 rfl) (kt1 rfl (fun g6 => ?_))
              refine gk (.cons (.tail (.tail (.tail .head))) (.cons (.tail (.tail (.tail .head))) (.cons (.tail (.tail (.tail .head))) (.cons (.tail (.tail (.tail .head))) (.nil))))) ?_
              refine wg_one (i := 7) (by kernel_rfl) ?_
              refine go_r rfl rfl rfl rfl (or_alloc tI38 rfl) (kt1 rfl (fun g7 => ?_))
              refine gk (.cons (.tail (.tail (.tail (.tail .head)))) (.cons (.tail (.tail (.tail (.tail .head)))) (.cons (.tail (.tail (.tail (.tail .head)))) (.cons (.tail (.tail (.tail (.tail .head)))) (.nil))))) ?_
              refine wg_one (i := 8) (by kernel_rfl) ?_
              refine go_r0 rfl rfl rfl rfl (or_store_blk (vs := [.slice (some ⟨g26, 0, none⟩) (m) (m)]) (cs' := [.slice (some ⟨g26, 0, none⟩) (m) (m)]) (.tail .head) tI22 rfl rfl rfl rfl (Nat.le_of_ble_eq_true rfl) rfl) (kn0 ?_)
              refine gk (.cons (.tail (.tail (.tail (.tail .head)))) (.cons (.tail (.tail (.tail (.tail .head)))) (.cons (.tail (.tail (.tail (.tail .head)))) (.cons (.tail (.tail (.tail (.tail .head)))) (.nil))))) ?_
              refine wg_one (i := 9) (by kernel_rfl) ?_
              refine go_r0 rfl rfl rfl rfl (or_store_blk (vs := [.slice (some ⟨g29, 0, none⟩) (m) (m)]) (cs' := [.slice (some ⟨g29, 0, none⟩) (m) (m)]) (.tail .head) tI38 rfl rfl rfl rfl (Nat.le_of_ble_eq_true rfl) rfl) (kn0 ?_)
              refine gk (.cons (.tail (.tail (.tail (.tail .head)))) (.cons (.tail (.tail (.tail (.tail .head)))) (.cons (.tail (.tail (.tail (.tail .head)))) (.cons (.tail (.tail (.tail (.tail .head)))) (.nil))))) ?_
              refine wg_done (by kernel_rfl) ?_
              exact fun ac_ w_ hs_ => hK5 g6 g7 g26 g29 trivial ac_ w_ (hs_.weaken (.cons rfl (.cons rfl (.cons rfl (.cons rfl (.cons rfl (.cons rfl (.cons rfl (.nil)))))))) (.cons (.tail (.tail (.tail (.tail .head)))) (.cons (.tail (.tail (.tail (.tail .head)))) (.cons (.tail (.tail (.tail (.tail .head)))) (.cons (.tail (.tail (.tail (.tail .head)))) (.cons (.tail .head) (.cons (.head) (.cons (.head) (.cons (.head) (.nil))))))))))
            ·
              refine go_r rfl rfl rfl rfl (or_alloc tI38 rfl) (kt1 rfl (fun g7 => ?_))
              refine gk (.cons (.tail (.tail (.tail .head))) (.cons (.tail (.tail (.tail .head))) (.cons (.tail (.tail (.tail .head))) (.cons (.tail (.tail (.tail .head))) (.nil))))) ?_
              refine wg_one (i := 6) (by kernel_rfl) ?_
              refine go_r rfl rfl rfl rfl (or_alloc tI22 rfl) (kt1 rfl (fun g6 => ?_))
              refine gk (.cons (.tail (.tail (.tail (.tail .head)))) (.cons (.tail (.tail (.tail (.tail .head)))) (.cons (.tail (.tail (.tail (.tail .head)))) (.cons (.tail (.tail (.tail (.tail .head)))) (.nil))))) ?_
              refine wg_one (i := 8) (by kernel_rfl) ?_
              refine go_r0 rfl rfl rfl rfl (or_store_blk (vs := [.slice (some ⟨g26, 0, none⟩) (m) (m)]) (cs' := [.slice (some ⟨g26, 0, none⟩) (m) (m)]) (.head) tI22 rfl rfl rfl rfl (Nat.le_of_ble_eq_true rfl) rfl) (kn0 ?_)
              refine gk (.cons (.tail (.tail (.tail (.tail .head)))) (.cons (.tail (.tail (.tail (.tail .head)))) (.cons (.tail (.tail (.tail (.tail .head)))) (.cons (.tail (.tail (.tail (.tail .head)))) (.nil))))) ?_
              refine wg_one (i := 9) (by kernel_rfl) ?_
              refine go_r0 rfl rfl rfl rfl (or_store_blk (vs := [.slice (some ⟨g29, 0, none⟩) (m) (m)]) (cs' := [.slice (some ⟨g29, 0, none⟩) (m) (m)]) (.tail .head) tI38 rfl rfl rfl rfl (Nat.le_of_ble_eq_true rfl) rfl) (kn0 ?_)
              refine gk (.cons (.tail (.tail (.tail (.tail .head)))) (.cons (.tail (.tail (.tail (.tail .head)))) (.cons (.tail (.tail (.tail (.tail .head)))) (.cons (.tail (.tail (.tail (.tail .head)))) (.nil))))) ?_
              refine wg_done (by kernel_rfl) ?_
              exact fun ac_ w_ hs_ => hK5 g6 g7 g26 g29 trivial ac_ w_ (hs_.weaken (.cons rfl (.cons rfl (.cons rfl (.cons rfl (.cons rfl (.cons rfl (.cons rfl (.nil)))))))) (.cons (.tail (.tail (.tail (.tail .head)))) (.cons (.tail (.tail (.tail (.tail .head)))) (.cons (.tail (.tail (.tail (.tail .head)))) (.cons (.tail (.tail (.tail (.tail .head)))) (.cons (.tail .head) (.cons (.head) (.cons (.head) (.cons (.head) (.nil))))))))))
          ·
            refine go_r rfl rfl rfl rfl (or_alloc tI22 rfl) (kt1 rfl (fun g6 => ?_))
            refine gk (.cons (.tail (.tail .head)) (.cons (.tail (.tail .head)) (.cons (.tail (.tail .head)) (.cons (.tail (.tail .head)) (.nil))))) ?_
            refine wg_two (i := 2) (j := 7) (by kernel_rfl) ?_ ?_
            ·
              refine go_r rfl rfl rfl rfl (or_makeSlice (m := m) sI22 tI5 rfl rfl (made_fY _) (by omega) (show m ≤ maxLen by simp only [maxLen]; omega)) (kt1 rfl (fun g26 => ?_))
              refine gk (.cons (.tail (.tail (.tail .head))) (.cons (.tail (.tail (.tail .head))) (.cons (.tail (.tail (.tail .head))) (.cons (.tail (.tail (.tail .head))) (.nil))))) ?_
              refine wg_one (i := 7) (by kernel_rfl) ?_
              refine go_r rfl rfl rfl rfl (or_alloc tI38 rfl) (kt1 rfl (fun g7 => ?_))
              refine gk (.cons (.tail (.tail (.tail (.tail .head)))) (.cons (.tail (.tail (.tail (.tail .head)))) (.cons (.tail (.tail (.tail (.tail .head)))) (.cons (.tail (.tail (.tail (.tail .head)))) (.nil))))) ?_
              refine wg_one (i := 8) (by kernel_rfl) ?_
              refine go_r0 rfl rfl rfl rfl (or_store_blk (vs := [.slice (some ⟨g26, 0, none⟩) (m) (m)]) (cs' := [.slice (some ⟨g26, 0, none⟩) (m) (m)]) (.tail (.tail .head)) tI22 rfl rfl rfl rfl (Nat.le_of_ble_eq_true rfl) rfl) (kn0 ?_)
              refine gk (.cons (.tail (.tail (.tail (.tail .head)))) (.cons (.tail (.tail (.tail (.tail .head)))) (.cons (.tail (.tail (.tail (.tail .head)))) (.cons (.tail (.tail (.tail (.tail .head)))) (.nil))))) ?_
              refine wg_one (i := 9) (by kernel_rfl) ?_
              refine go_r0 rfl rfl rfl rfl (or_store_blk (vs := [.slice (some ⟨g29, 0, none⟩) (m) (m)]) (cs' := [.slice (some ⟨g29, 0, none⟩) (m) (m)]) (.tail .head) tI38 rfl rfl rfl rfl (Nat.le_of_ble_eq_true rfl) rfl) (kn0 ?_)
              refine gk (.cons (.tail (.tail (.tail (.tail .head)))) (.cons (.tail (.tail (.tail (.tail .head)))) (.cons (.tail (.tail (.tail (.tail .head)))) (.cons (.tail (.tail (.tail (.tail .head)))) (.nil))))) ?_
              refine wg_done (by kernel_rfl) ?_
              exact fun ac_ w_ hs_ => hK5 g6 g7 g26 g29 trivial ac_ w_ (hs_.weaken (.cons rfl (.cons rfl (.cons rfl (.cons rfl (.cons rfl (.cons rfl (.cons rfl (.nil)))))))) (.cons (.tail (.tail (.tail (.tail .head)))) (.cons (.tail (.tail (.tail (.tail .head)))) (.cons (.tail (.tail (.tail (.tail .head)))) (.cons (.tail (.tail (.tail (.tail .head)))) (.cons (.tail .head) (.cons (.head) (.cons (.head) (.cons (.head) (.nil))))))))))
            ·
              refine go_r rfl rfl rfl rfl (or_alloc tI38 rfl) (kt1 rfl (fun g7 => ?_))
              refine gk (.cons (.tail (.tail (.tail .head))) (.cons (.tail (.tail (.tail .head))) (.cons (.tail (.tail (.tail .head))) (.cons (.tail (.tail (.tail .head))) (.nil))))) ?_
              refine wg_one (i := 2) (by kernel_rfl) ?_
              refine go_r rfl rfl rfl rfl (or_makeSlice (m := m) sI22 tI5 rfl rfl (made_fY _) (by omega) (show m ≤ maxLen by simp only [maxLen]; omega)) (kt1 rfl (fun g26 => ?_))
              refine gk (.cons (.tail (.tail (.tail (.tail .head)))) (.cons (.tail (.tail (.tail (.tail .head)))) (.cons (.tail (.tail (.tail (.tail .head)))) (.cons (.tail (.tail (.tail (.tail .head)))) (.nil))))) ?_
              refine wg_one (i := 8) (by kernel_rfl) ?_
              refine go_r0 rfl rfl rfl rfl (or_store_blk (vs := [.slice (some ⟨g26, 0, none⟩) (m) (m)]) (cs' := [.slice (some ⟨g26, 0, none⟩) (m) (m)]) (.tail (.tail .head)) tI22 rfl rfl rfl rfl (Nat.le_of_ble_eq_true rfl) rfl) (kn0 ?_)
              refine gk (.cons (.tail (.tail (.tail (.tail .head)))) (.cons (.tail (.tail (.tail (.tail .head)))) (.cons (.tail (.tail (.tail (.tail .head)))) (.cons (.tail (.tail (.tail (.tail .head)))) (.nil))))) ?_
              refine wg_one (i := 9) (by kernel_rfl) ?_
              refine go_r0 rfl rfl rfl rfl (or_store_blk (vs := [.slice (some ⟨g29, 0, none⟩) (m) (m)]) (cs' := [.slice (some ⟨g29, 0, none⟩) (m) (m)]) (.tail (.tail .head)) tI38 rfl rfl rfl rfl (Nat.le_of_ble_eq_true rfl) rfl) (kn0 ?_)
              refine gk (.cons (.tail (.tail (.tail (.tail .head)))) (.cons (.tail (.tail (.tail (.tail .head)))) (.cons (.tail (.tail (.tail (.tail .head)))) (.cons (.tail (.tail (.tail (.tail .head)))) (.nil))))) ?_
              refine wg_done (by kernel_rfl) ?_
              exact fun ac_ w_ hs_ => hK5 g6 g7 g26 g29 trivial ac_ w_ (hs_.weaken (.cons rfl (.cons rfl (.cons rfl (.cons rfl (.cons rfl (.cons rfl (.cons rfl (.nil)))))))) (.cons (.tail (.tail (.tail (.tail .head)))) (.cons (.tail (.tail (.tail (.tail .head)))) (.cons (.tail (.tail (.tail (.tail .head)))) (.cons (.tail (.tail (.tail (.tail .head)))) (.cons (.tail .head) (.cons (.head) (.cons (.head) (.cons (.head) (.nil))))))))))
          ·
            refine go_r rfl rfl rfl rfl (or_alloc tI38 rfl) (kt1 rfl (fun g7 => ?_))
            refine gk (.cons (.tail (.tail .head)) (.cons (.tail (.tail .head)) (.cons (.tail (.tail .head)) (.cons (.tail (.tail .head)) (.nil))))) ?_
            refine wg_two (i := 2) (j := 6) (by kernel_rfl) ?_ ?_
            ·
              refine go_r rfl rfl rfl rfl (or_makeSlice (m := m) sI22 tI5 rfl rfl (made_fY _) (by omega) (show m ≤ maxLen by simp only [maxLen]; omega)) (kt1 rfl (fun g26 => ?_))
              refine gk (.cons (.tail (.tail (.tail .head))) (.cons (.tail (.tail (.tail .head))) (.cons (.tail (.tail (.tail .head))) (.cons (.tail (.tail (.tail .head))) (.nil))))) ?_
              refine wg_one (i := 6) (by kernel_rfl) ?_
              refine go_r rfl rfl rfl rfl (or_alloc tI22 rfl) (kt1 rfl (fun g6 => ?_))
              refine gk (.cons (.tail (.tail (.tail (.tail .head)))) (.cons (.tail (.tail (.tail (.tail .head)))) (.cons (.tail (.tail (.tail (.tail .head)))) (.cons (.tail (.tail (.tail (.tail .head)))) (.nil))))) ?_
              refine wg_one (i := 8) (by kernel_rfl) ?_
              refine go_r0 rfl rfl rfl rfl (or_store_blk (vs := [.slice (some ⟨g26, 0, none⟩) (m) (m)]) (cs' := [.slice (some ⟨g26, 0, none⟩) (m) (m)]) (.head) tI22 rfl rfl rfl rfl (Nat.le_of_ble_eq_true rfl) rfl) (kn0 ?_)
              refine gk (.cons (.tail (.tail (.tail (.tail .head)))) (.cons (.tail (.tail (.tail (.tail .head)))) (.cons (.tail (.tail (.tail (.tail .head)))) (.cons (.tail (.tail (.tail (.tail .head)))) (.nil))))) ?_
              refine wg_one (i := 9) (by kernel_rfl) ?_
              refine go_r0 rfl rfl rfl rfl (or_store_blk (vs := [.slice (some ⟨g29, 0, none⟩) (m) (m)]) (cs' := [.slice (some ⟨g29, 0, none⟩) (m) (m)]) (.tail (.tail .head)) tI38 rfl rfl rfl rfl (Nat.le_of_ble_eq_true rfl) rfl) (kn0 ?_)
              refine gk (.cons (.tail (.tail (.tail (.tail .head)))) (.cons (.tail (.tail (.tail (.tail .head)))) (.cons (.tail (.tail (.tail (.tail .head)))) (.cons (.tail (.tail (.tail (.tail .head)))) (.nil))))) ?_
              refine wg_done (by kernel_rfl) ?_
              exact fun ac_ w_ hs_ => hK5 g6 g7 g26 g29 trivial ac_ w_ (hs_.weaken (.cons rfl (.cons rfl (.cons rfl (.cons rfl (.cons rfl (.cons rfl (.cons rfl (.nil)))))))) (.cons (.tail (.tail (.tail (.tail .head)))) (.cons (.tail (.tail (.tail (.tail .head)))) (.cons (.tail (.tail (.tail (.tail .head)))) (.cons (.tail (.tail (.tail (.tail .head)))) (.cons (.tail .head) (.cons (.head) (.cons (.head) (.cons (.head) (.nil))))))))))
            ·
              refine go_r rfl rfl rfl rfl (or_alloc tI22 rfl) (kt1 rfl (fun g6 => ?_))
              refine gk (.cons (.tail (.tail (.tail .head))) (.cons (.tail (.tail (.tail .head))) (.cons (.tail (.tail (.tail .head))) (.cons (.tail (.tail (.tail .head))) (.nil))))) ?_
              refine wg_one (i := 2) (by kernel_rfl) ?_
              refine go_r rfl rfl rfl rfl (or_makeSlice (m := m) sI22 tI5 rfl rfl (made_fY _) (by omega) (show m ≤ maxLen by simp only [maxLen]; omega)) (kt1 rfl (fun g26 => ?_))
              refine gk (.cons (.tail (.tail (.tail (.tail .head)))) (.cons (.tail (.tail (.tail (.tail .head)))) (.cons (.tail (.tail (.tail (.tail .head)))) (.cons (.tail (.tail (.tail (.tail .head)))) (.nil))))) ?_
              refine wg_one (i := 8) (by kernel_rfl) ?_
              refine go_r0 rfl rfl rfl rfl (or_store_blk (vs := [.slice (some ⟨g26, 0, none⟩) (m) (m)]) (cs' := [.slice (some ⟨g26, 0, none⟩) (m) (m)]) (.tail .head) tI22 rfl rfl rfl rfl (Nat.le_of_ble_eq_true rfl) rfl) (kn0 ?_)
              refine gk (.cons (.tail (.tail (.tail (.tail .head)))) (.cons (.tail (.tail (.tail (.tail .head)))) (.cons (.tail (.tail (.tail (.tail .head)))) (.cons (.tail (.tail (.tail (.tail .head)))) (.nil))))) ?_
              refine wg_one (i := 9) (by kernel_rfl) ?_
              refine go_r0 rfl rfl rfl rfl (or_store_blk (vs := [.slice (some ⟨g29, 0, none⟩) (m) (m)]) (cs' := [.slice (some ⟨g29, 0, none⟩) (m) (m)]) (.tail (.tail .head)) tI38 rfl rfl rfl rfl (Nat.le_of_ble_eq_true rfl) rfl) (kn0 ?_)
              refine gk (.cons (.tail (.tail (.tail (.tail .head)))) (.cons (.tail (.tail (.tail (.tail .head)))) (.cons (.tail (.tail (.tail (.tail .head)))) (.cons (.tail (.tail (.tail (.tail .head)))) (.nil))))) ?_
              refine wg_done (by kernel_rfl) ?_
              exact fun ac_ w_ hs_ => hK5 g6 g7 g26 g29 trivial ac_ w_ (hs_.weaken (.cons rfl (.cons rfl (.cons rfl (.cons rfl (.cons rfl (.cons rfl (.cons rfl (.nil)))))))) (.cons (.tail (.tail (.tail (.tail .head)))) (.cons (.tail (.tail (.tail (.tail .head)))) (.cons (.tail (.tail (.tail (.tail .head)))) (.cons (.tail (.tail (.tail (.tail .head)))) (.cons (.tail .head) (.cons (.head) (.cons (.head) (.cons (.head) (.nil))))))))))
        ·
          refine go_r rfl rfl rfl rfl (or_alloc tI22 rfl) (kt1 rfl (fun g6 => ?_))
          refine gk (.cons (.tail .head) (.cons (.tail .head) (.cons (.tail .head) (.cons (.tail .head) (.nil))))) ?_
          refine wg_three (i1 := 2) (i2 := 5) (i3 := 7) (by kernel_rfl) ?_ ?_ ?_
          ·
            refine go_r rfl rfl rfl rfl (or_makeSlice (m := m) sI22 tI5 rfl rfl (made_fY _) (by omega) (show m ≤ maxLen by simp only [maxLen]; omega)) (kt1 rfl (fun g26 => ?_))
            refine gk (.cons (.tail (.tail .head)) (.cons (.tail (.tail .head)) (.cons (.tail (.tail .head)) (.cons (.tail (.tail .head)) (.nil))))) ?_
            refine wg_two (i := 5) (j := 7) (by kernel_rfl) ?_ ?_
            ·
              refine go_r rfl rfl rfl rfl (or_makeSlice (m := m) sI38 tI3 rfl rfl (made_fI _) (by omega) (show m ≤ maxLen by simp only [maxLen]; omega)) (kt1 rfl (fun g29 => ?_))
              refine gk (.cons (.tail (.tail (.tail .head))) (.cons (.tail (.tail (.tail .head))) (.cons (.tail (.tail (.tail .head))) (.cons (.tail (.tail (.tail .head))) (.nil))))) ?_
              refine wg_one (i := 7) (by kernel_rfl) ?_
              refine go_r rfl rfl rfl rfl (or_alloc tI38 rfl) (kt1 rfl (fun g7 => ?_))
              refine gk (.cons (.tail (.tail (.tail (.tail .head)))) (.cons (.tail (.tail (.tail (.tail .head)))) (.cons (.tail (.tail (.tail (.tail .head)))) (.cons (.tail (.tail (.tail (.tail .head)))) (.nil))))) ?_
              refine wg_one (i := 8) (by kernel_rfl) ?_
              refine go_r0 rfl rfl rfl rfl (or_store_blk (vs := [.slice (some ⟨g26, 0, none⟩) (m) (m)]) (cs' := [.slice (some ⟨g26, 0, none⟩) (m) (m)]) (.tail (.tail (.tail .head))) tI22 rfl rfl rfl rfl (Nat.le_of_ble_eq_true rfl) rfl) (kn0 ?_)
              refine gk (.cons (.tail (.tail (.tail (.tail .head)))) (.cons (.tail (.tail (.tail (.tail .head)))) (.cons (.tail (.tail (.tail (.tail .head)))) (.cons (.tail (.tail (.tail (.tail .head)))) (.nil))))) ?_
              refine wg_one (i := 9) (by kernel_rfl) ?_
              refine go_r0 rfl rfl rfl rfl (or_store_blk (vs := [.slice (some ⟨g29, 0, none⟩) (m) (m)]) (cs' := [.slice (some ⟨g29, 0, none⟩) (m) (m)]) (.tail .head) tI38 rfl rfl rfl rfl (Nat.le_of_ble_eq_true rfl) rfl) (kn0 ?_)
              refine gk (.cons (.tail (.tail (.tail (.tail .head)))) (.cons (.tail (.tail (.tail (.tail .head)))) (.cons (.tail (.tail (.tail (.tail .head)))) (.cons (.tail (.tail (.tail (.tail .head)))) (.nil))))) ?_
              refine wg_done (by kernel_rfl) ?_
              exact fun ac_ w_ hs_ => hK5 g6 g7 g26 g29 trivial ac_ w_ (hs_.weaken (.cons rfl (.cons rfl (.cons rfl (.cons rfl (.cons rfl (.cons rfl (.cons rfl (.nil)))))))) (.cons (.tail (.tail (.tail (.tail .head)))) (.cons (.tail (.tail (.tail (.tail .head)))) (.cons (.tail (.tail (.tail (.tail .head)))) (.cons (.tail (.tail (.tail (.tail .head)))) (.cons (.tail .head) (.cons (.head) (.cons (.tail .head) (.cons (.head) (.nil))))))))))
            ·
              refine go_r rfl rfl rfl rfl (or_alloc tI38 rfl) (kt1 rfl (fun g7 => ?_))
              refine gk (.cons (.tail (.tail (.tail .head))) (.cons (.tail (.tail (.tail .head))) (.cons (.tail (.tail (.tail .head))) (.cons (.tail (.tail (.tail .head))) (.nil))))) ?_
              refine wg_two (i := 5) (j := 8) (by kernel_rfl) ?_ ?_
              ·
                refine go_r rfl rfl rfl rfl (or_makeSlice (m := m) sI38 tI3 rfl rfl (made_fI _) (by omega) (show m ≤ maxLen by simp only [maxLen]; omega)) (kt1 rfl (fun g29 => ?_))
                refine gk (.cons (.tail (.tail (.tail (.tail .head)))) (.cons (.tail (.tail (.tail (.tail .head)))) (.cons (.tail (.tail (.tail (.tail .head)))) (.cons (.tail (.tail (.tail (.tail .head)))) (.nil))))) ?_
                refine wg_one (i := 8) (by kernel_rfl) ?_
                refine go_r0 rfl rfl rfl rfl (or_store_blk (vs := [.slice (some ⟨g26, 0, none⟩) (m) (m)]) (cs' := [.slice (some ⟨g26, 0, none⟩) (m) (m)]) (.tail (.tail (.tail .head))) tI22 rfl rfl rfl rfl (Nat.le_of_ble_eq_true rfl) rfl) (kn0 ?_)
                refine gk (.cons (.tail (.tail (.tail (.tail .head)))) (.cons (.tail (.tail (.tail (.tail .head)))) (.cons (.tail (.tail (.tail (.tail .head)))) (.cons (.tail (.tail (.tail (.tail .head)))) (.nil))))) ?_
                refine wg_one (i := 9) (by kernel_rfl) ?_
                refine go_r0 rfl rfl rfl rfl (or_store_blk (vs := [.slice (some ⟨g29, 0, none⟩) (m) (m)]) (cs' := [.slice (some ⟨g29, 0, none⟩) (m) (m)]) (.tail (.tail .head)) tI38 rfl rfl rfl rfl (Nat.le_of_ble_eq_true rfl) rfl) (kn0 ?_)
                refine gk (.cons (.tail (.tail (.tail (.tail .head)))) (.cons (.tail (.tail (.tail (.tail .head)))) (.cons (.tail (.tail (.tail (.tail .head)))) (.cons (.tail (.tail (.tail (.tail .head)))) (.nil))))) ?_
                refine wg_done (by kernel_rfl) ?_
                exact fun ac_ w_ hs_ => hK5 g6 g7 g26 g29 trivial ac_ w_ (hs_.weaken (.cons rfl (.cons rfl (.cons rfl (.cons rfl (.cons rfl (.cons rfl (.cons rfl (.nil)))))))) (.cons (.tail (.tail (.tail (.tail .head)))) (.cons (.tail (.tail (.tail (.tail .head)))) (.cons (.tail (.tail (.tail (.tail .head)))) (.cons (.tail (.tail (.tail (.tail .head)))) (.cons (.tail .head) (.cons (.head) (.cons (.tail .head) (.cons (.head) (.nil))))))))))
              ·
                refine go_r0 rfl rfl rfl rfl (or_store_blk (vs := [.slice (some ⟨g26, 0, none⟩) (m) (m)]) (cs' := [.slice (some ⟨g26, 0, none⟩) (m) (m)]) (.tail (.tail .head)) tI22 rfl rfl rfl rfl (Nat.le_of_ble_eq_true rfl) rfl) (kn0 ?_)
                refine gk (.cons (.tail (.tail (.tail .head))) (.cons (.tail (.tail (.tail .head))) (.cons (.tail (.tail (.tail .head))) (.cons (.tail (.tail (.tail .head))) (.nil))))) ?_
                refine wg_one (i := 5) (by kernel_rfl) ?_
                refine go_r rfl rfl rfl rfl (or_makeSlice (m := m) sI38 tI3 rfl rfl (made_fI _) (by omega) (show m ≤ maxLen by simp only [maxLen]; omega)) (kt1 rfl (fun g29 => ?_))
                refine gk (.cons (.tail (.tail (.tail (.tail .head)))) (.cons (.tail (.tail (.tail (.tail .head)))) (.cons (.tail (.tail (.tail (.tail .head)))) (.cons (.tail (.tail (.tail (.tail .head)))) (.nil))))) ?_
                refine wg_one (i := 9) (by kernel_rfl) ?_
                refine go_r0 rfl rfl rfl rfl (or_store_blk (vs := [.slice (some ⟨g29, 0, none⟩) (m) (m)]) (cs' := [.slice (some ⟨g29, 0, none⟩) (m) (m)]) (.tail (.tail .head)) tI38 rfl rfl rfl rfl (Nat.le_of_ble_eq_true rfl) rfl) (kn0 ?_)
                refine gk (.cons (.tail (.tail (.tail (.tail .head)))) (.cons (.tail (.tail (.tail (.tail .head)))) (.cons (.tail (.tail (.tail (.tail .head)))) (.cons (.tail (.tail (.tail (.tail .head)))) (.nil))))) ?_
                refine wg_done (by kernel_rfl) ?_
                exact fun ac_ w_ hs_ => hK5 g6 g7 g26 g29 trivial ac_ w_ (hs_.weaken (.cons rfl (.cons rfl (.cons rfl (.cons rfl (.cons rfl (.cons rfl (.cons rfl (.nil)))))))) (.cons (.tail (.tail (.tail (.tail .head)))) (.cons (.tail (.tail (.tail (.tail .head)))) (.cons (.tail (.tail (.tail (.tail .head)))) (.cons (.tail (.tail (.tail (.tail .head)))) (.cons (.tail (.tail .head)) (.cons (.head) (.cons (.tail .head) (.cons (.head) (.nil))))))))))
          ·
            refine go_r rfl rfl rfl rfl (or_makeSlice (m := m) sI38 tI3 rfl rfl (made_fI _) (by omega) (show m ≤ maxLen by simp only [maxLen]; omega)) (kt1 rfl (fun g29 => ?_))
            refine gk (.cons (.tail (.tail .head)) (.cons (.tail (.tail .head)) (.cons (.tail (.tail .head)) (.cons (.tail (.tail .head)) (.nil))))) ?_
            refine wg_two (i := 2) (j := 7) (by kernel_rfl) ?_ ?_
            ·
              refine go_r rfl rfl rfl rfl (or_makeSlice (m := m) sI22 tI5 rfl rfl (made_fY _) (by omega) (show m ≤ maxLen by simp only [maxLen]; omega)) (kt1 rfl (fun g26 => ?_))
              refine gk (.cons (.tail (.tail (.tail .head))) (.cons (.tail (.tail (.tail .head))) (.cons (.tail (.tail (.tail .head))) (.cons (.tail (.tail (.tail .head))) (.nil))))) ?_
              refine wg_one (i := 7) (by kernel_rfl) ?_
              refine go_r rfl rfl rfl rfl (or_alloc tI38 rfl) (kt1 rfl (fun g7 => ?_))
              refine gk (.cons (.tail (.tail (.tail (.tail .head)))) (.cons (.tail (.tail (.tail (.tail .head)))) (.cons (.tail (.tail (.tail (.tail .head)))) (.cons (.tail (.tail (.tail (.tail .head)))) (.nil))))) ?_
              refine wg_one (i := 8) (by kernel_rfl) ?_
              refine go_r0 rfl rfl rfl rfl (or_store_blk (vs := [.slice (some ⟨g26, 0, none⟩) (m) (m)]) (cs' := [.slice (some ⟨g26, 0, none⟩) (m) (m)]) (.tail (.tail (.tail .head))) tI22 rfl rfl rfl rfl (Nat.le_of_ble_eq_true rfl) rfl) (kn0 ?_)
              refine gk (.cons (.tail (.tail (.tail (.tail .head)))) (.cons (.tail (.tail (.tail (.tail .head)))) (.cons (.tail (.tail (.tail (.tail .head)))) (.cons (.tail (.tail (.tail (.tail .head)))) (.nil))))) ?_
              refine wg_one (i := 9) (by kernel_rfl) ?_
              refine go_r0 rfl rfl rfl rfl (or_store_blk (vs := [.slice (some ⟨g29, 0, none⟩) (m) (m)]) (cs' := [.slice (some ⟨g29, 0, none⟩) (m) (m)]) (.tail .head) tI38 rfl rfl rfl rfl (Nat.le_of_ble_eq_true rfl) rfl) (kn0 ?_)
              refine gk (.cons (.tail (.tail (.tail (.tail .head)))) (.cons (.tail (.tail (.tail (.tail .head)))) (.cons (.tail (.tail (.tail (.tail .head)))) (.cons (.tail (.tail (.tail (.tail .head)))) (.nil))))) ?_
              refine wg_done (by kernel_rfl) ?_
              exact fun ac_ w_ hs_ => hK5 g6 g7 g26 g29 trivial ac_ w_ (hs_.weaken (.cons rfl (.cons rfl (.cons rfl (.cons rfl (.cons rfl (.cons rfl (.cons rfl (.nil)))))))) (.cons (.tail (.tail (.tail (.tail .head)))) (.cons (.tail (.tail (.tail (.tail .head)))) (.cons (.tail (.tail (.tail (.tail .head)))) (.cons (.tail (.tail (.tail (.tail .head)))) (.cons (.tail .head) (.cons (.head) (.cons (.head) (.cons (.head) (.nil))))))))))
            ·
              refine go_r rfl rfl rfl rfl (or_alloc tI38 rfl) (kt1 rfl (fun g7 => ?_))
              refine gk (.cons (.tail (.tail (.tail .head))) (.cons (.tail (.tail (.tail .head))) (.cons (.tail (.tail (.tail .head))) (.cons (.tail (.tail (.tail .head))) (.nil))))) ?_
              refine wg_one (i := 2) (by kernel_rfl) ?_
              refine go_r rfl rfl rfl rfl (or_makeSlice (m := m) sI22 tI5 rfl rfl (made_fY _) (by omega) (show m ≤ maxLen by simp only [maxLen]; omega)) (kt1 rfl (fun g26 => ?_))
              refine gk (.cons (.tail (.tail (.tail (.tail .head)))) (.cons (.tail (.tail (.tail (.tail .head)))) (.cons (.tail (.tail (.tail (.tail .head)))) (.cons (.tail (.tail (.tail (.tail .head)))) (.nil))))) ?_
              refine wg_one (i := 8) (by kernel_rfl) ?_
              refine go_r0 rfl rfl rfl rfl (or_store_blk (vs := [.slice (some ⟨g26, 0, none⟩) (m) (m)]) (cs' := [.slice (some ⟨g26, 0, none⟩) (m) (m)]) (.tail (.tail (.tail .head))) tI22 rfl rfl rfl rfl (Nat.le_of_ble_eq_true rfl) rfl) (kn0 ?_)
              refine gk (.cons (.tail (.tail (.tail (.tail .head)))) (.cons (.tail (.tail (.tail (.tail .head)))) (.cons (.tail (.tail (.tail (.tail .head)))) (.cons (.tail (.tail (.tail (.tail .head)))) (.nil))))) ?_
              refine wg_one (i := 9) (by kernel_rfl) ?_
              refine go_r0 rfl rfl rfl rfl (or_store_blk (vs := [.slice (some ⟨g29, 0, none⟩) (m) (m)]) (cs' := [.slice (some ⟨g29, 0, none⟩) (m) (m)]) (.tail (.tail .head)) tI38 rfl rfl rfl rfl (Nat.le_of_ble_eq_true rfl) rfl) (kn0 ?_)
              refine gk (.cons (.tail (.tail (.tail (.tail .head)))) (.cons (.tail (.tail (.tail (.tail .head)))) (.cons (.tail (.tail (.tail (.tail .head)))) (.cons (.tail (.tail (.tail (.tail .head)))) (.nil))))) ?_
              refine wg_done (by kernel_rfl) ?_
              exact fun ac_ w_ hs_ => hK5 g6 g7 g26 g29 trivial ac_ w_ (hs_.weaken (.cons rfl (.cons rfl (.cons rfl (.cons rfl (.cons rfl (.cons rfl (.cons rfl (.nil)))))))) (.cons (.tail (.tail (.tail (.tail .head)))) (.cons (.tail (.tail (.tail (.tail .head)))) (.cons (.tail (.tail (.tail (.tail .head)))) (.cons (.tail (.tail (.tail (.tail .head)))) (.cons (.tail .head) (.cons (.head) (.cons (.head) (.cons (.head) (.nil))))))))))
          ·
            refine go_r rfl rfl rfl rfl (or_alloc tI38 rfl) (kt1 rfl (fun g7 => ?_))
            refine gk (.cons (.tail (.tail .head)) (.cons (.tail (.tail .head)) (.cons (.tail (.tail .head)) (.cons (.tail (.tail .head)) (.nil))))) ?_
            refine wg_two (i := 2) (j := 5) (by kernel_rfl) ?_ ?_
            ·
              refine go_r rfl rfl rfl rfl (or_makeSlice (m := m) sI22 tI5 rfl rfl (made_fY _) (by omega) (show m ≤ maxLen by simp only [maxLen]; omega)) (kt1 rfl (fun g26 => ?_))
              refine gk (.cons (.tail (.tail (.tail .head))) (.cons (.tail (.tail (.tail .head))) (.cons (.tail (.tail (.tail .head))) (.cons (.tail (.tail (.tail .head))) (.nil))))) ?_
              refine wg_two (i := 5) (j := 8) (by kernel_rfl) ?_ ?_
              ·
                refine go_r rfl rfl rfl rfl (or_makeSlice (m := m) sI38 tI3 rfl rfl (made_fI _) (by omega) (show m ≤ maxLen by simp only [maxLen]; omega)) (kt1 rfl (fun g29 => ?_))
                refine gk (.cons (.tail (.tail (.tail (.tail .head)))) (.cons (.tail (.tail (.tail (.tail .head)))) (.cons (.tail (.tail (.tail (.tail .head)))) (.cons (.tail (.tail (.tail (.tail .head)))) (.nil))))) ?_
                refine wg_one (i := 8) (by kernel_rfl) ?_
                refine go_r0 rfl rfl rfl rfl (or_store_blk (vs := [.slice (some ⟨g26, 0, none⟩) (m) (m)]) (cs' := [.slice (some ⟨g26, 0, none⟩) (m) (m)]) (.tail (.tail (.tail .head))) tI22 rfl rfl rfl rfl (Nat.le_of_ble_eq_true rfl) rfl) (kn0 ?_)
                refine gk (.cons (.tail (.tail (.tail (.tail .head)))) (.cons (.tail (.tail (.tail (.tail .head)))) (.cons (.tail (.tail (.tail (.tail .head)))) (.cons (.tail (.tail (.tail (.tail .head)))) (.nil))))) ?_
                refine wg_one (i := 9) (by kernel_rfl) ?_
                refine go_r0 rfl rfl rfl rfl (or_store_blk (vs := [.slice (some ⟨g29, 0, none⟩) (m) (m)]) (cs' := [.slice (some ⟨g29, 0, none⟩) (m) (m)]) (.tail (.tail (.tail .head))) tI38 rfl rfl rfl rfl (Nat.le_of_ble_eq_true rfl) rfl) (kn0 ?_)
                refine gk (.cons (.tail (.tail (.tail (.tail .head)))) (.cons (.tail (.tail (.tail (.tail .head)))) (.cons (.tail (.tail (.tail (.tail .head)))) (.cons (.tail (.tail (.tail (.tail .head)))) (.nil))))) ?_
                refine wg_done (by kernel_rfl) ?_
                exact fun ac_ w_ hs_ => hK5 g6 g7 g26 g29 trivial ac_ w_ (hs_.weaken (.cons rfl (.cons rfl (.cons rfl (.cons rfl (.cons rfl (.cons rfl (.cons rfl (.nil)))))))) (.cons (.tail (.tail (.tail (.tail .head)))) (.cons (.tail (.tail (.tail (.tail .head)))) (.cons (.tail (.tail (.tail (.tail .head)))) (.cons (.tail (.tail (.tail (.tail .head)))) (.cons (.tail .head) (.cons (.head) (.cons (.tail .head) (.cons (.head) (.nil))))))))))
              ·
                refine go_r0 rfl rfl rfl rfl (or_store_blk (vs := [.slice (some ⟨g26, 0, none⟩) (m) (m)]) (cs' := [.slice (some ⟨g26, 0, none⟩) (m) (m)]) (.tail (.tail .head)) tI22 rfl rfl rfl rfl (Nat.le_of_ble_eq_true rfl) rfl) (kn0 ?_)
                refine gk (.cons (.tail (.tail (.tail .head))) (.cons (.tail (.tail (.tail .head))) (.cons (.tail (.tail (.tail .head))) (.cons (.tail (.tail (.tail .head))) (.nil))))) ?_
                refine wg_one (i := 5) (by kernel_rfl) ?_
                refine go_r rfl rfl rfl rfl (or_makeSlice (m := m) sI38 tI3 rfl rfl (made_fI _) (by omega) (show m ≤ maxLen by simp only [maxLen]; omega)) (kt1 rfl (fun g29 => ?_))
                refine gk (.cons (.tail (.tail (.tail (.tail .head)))) (.cons (.tail (.tail (.tail (.tail .head)))) (.cons (.tail (.tail (.tail (.tail .head)))) (.cons (.tail (.tail (.tail (.tail .head)))) (.nil))))) ?_
                refine wg_one (i := 9) (by kernel_rfl) ?_
                refine go_r0 rfl rfl rfl rfl (or_store_blk (vs := [.slice (some ⟨g29, 0, none⟩) (m) (m)]) (cs' := [.slice (some ⟨g29, 0, none⟩) (m) (m)]) (.tail (.tail (.tail .head))) tI38 rfl rfl rfl rfl (Nat.le_of_ble_eq_true rfl) rfl) (kn0 ?_)
                refine gk (.cons (.tail (.tail (.tail (.tail .head)))) (.cons (.tail (.tail (.tail (.tail .head)))) (.cons (.tail (.tail (.tail (.tail .head)))) (.cons (.tail (.tail (.tail (.tail .head)))) (.nil))))) ?_
                refine wg_done (by kernel_rfl) ?_
                exact fun ac_ w_ hs_ => hK5 g6 g7 g26 g29 trivial ac_ w_ (hs_.weaken (.cons rfl (.cons rfl (.cons rfl (.cons rfl (.cons rfl (.cons rfl (.cons rfl (.nil)))))))) (.cons (.tail (.tail (.tail (.tail .head)))) (.cons (.tail (.tail (.tail (.tail .head)))) (.cons (.tail (.tail (.tail (.tail .head)))) (.cons (.tail (.tail (.tail (.tail .head)))) (.cons (.tail (.tail .head)) (.cons (.head) (.cons (.tail .head) (.cons (.head) (.nil))))))))))
            ·
              refine go_r rfl rfl rfl rfl (or_makeSlice (m := m) sI38 tI3 rfl rfl (made_fI _) (by omega) (show m ≤ maxLen by simp only [maxLen]; omega)) (kt1 rfl (fun g29 => ?_))
              refine gk (.cons (.tail (.tail (.tail .head))) (.cons (.tail (.tail (.tail .head))) (.cons (.tail (.tail (.tail .head))) (.cons (.tail (.tail (.tail .head))) (.nil))))) ?_
              refine wg_one (i := 2) (by kernel_rfl) ?_
              refine go_r rfl rfl rfl rfl (or_makeSlice (m := m) sI22 tI5 rfl rfl (made_fY _) (by omega) (show m ≤ maxLen by simp only [maxLen]; omega)) (kt1 rfl (fun g26 => ?_))
              refine gk (.cons (.tail (.tail (.tail (.tail .head)))) (.cons (.tail (.tail (.tail (.tail .head)))) (.cons (.tail (.tail (.tail (.tail .head)))) (.cons (.tail (.tail (.tail (.tail .head)))) (.nil))))) ?_
              refine wg_one (i := 8) (by kernel_rfl) ?_
              refine go_r0 rfl rfl rfl rfl (or_store_blk (vs := [.slice (some ⟨g26, 0, none⟩) (m) (m)]) (cs' := [.slice (some ⟨g26, 0, none⟩) (m) (m)]) (.tail (.tail (.tail .head))) tI22 rfl rfl rfl rfl (Nat.le_of_ble_eq_true rfl) rfl) (kn0 ?_)
              refine gk (.cons (.tail (.tail (.tail (.tail .head)))) (.cons (.tail (.tail (.tail (.tail .head)))) (.cons (.tail (.tail (.tail (.tail .head)))) (.cons (.tail (.tail (.tail (.tail .head)))) (.nil))))) ?_
              refine wg_one (i := 9) (by kernel_rfl) ?_
              refine go_r0 rfl rfl rfl rfl (or_store_blk (vs := [.slice (some ⟨g29, 0, none⟩) (m) (m)]) (cs' := [.slice (some ⟨g29, 0, none⟩) (m) (m)]) (.tail (.tail (.tail .head))) tI38 rfl rfl rfl rfl (Nat.le_of_ble_eq_true rfl) rfl) (kn0 ?_)
              refine gk (.cons (.tail (.tail (.tail (.tail .head)))) (.cons (.tail (.tail (.tail (.tail .head)))) (.cons (.tail (.tail (.tail (.tail .head)))) (.cons (.tail (.tail (.tail (.tail .head)))) (.nil))))) ?_
              refine wg_done (by kernel_rfl) ?_
              exact fun ac_ w_ hs_ => hK5 g6 g7 g26 g29 trivial ac_ w_ (hs_.weaken (.cons rfl (.cons rfl (.cons rfl (.cons rfl (.cons rfl (.cons rfl (.cons rfl (.nil)))))))) (.cons (.tail (.tail (.tail (.tail .head)))) (.cons (.tail (.tail (.tail (.tail .head)))) (.cons (.tail (.tail (.tail (.tail .head)))) (.cons (.tail (.tail (.tail (.tail .head)))) (.cons (.tail .head) (.cons (.head) (.cons (.head) (.cons (.head) (.nil))))))))))
        ·
          refine go_r rfl rfl rfl rfl (or_alloc tI38 rfl) (kt1 rfl (fun g7 => ?_))
          refine gk (.cons (.tail .head) (.cons (.tail .head) (.cons (.tail .head) (.cons (.tail .head) (.nil))))) ?_
          refine wg_three (i1 := 2) (i2 := 5) (i3 := 6) (by kernel_rfl) ?_ ?_ ?_
          ·
            refine go_r rfl rfl rfl rfl (or_makeSlice (m := m) sI22 tI5 rfl rfl (made_fY _) (by omega) (show m ≤ maxLen by simp only [maxLen]; omega)) (kt1 rfl (fun g26 => ?_))
            refine gk (.cons (.tail (.tail .head)) (.cons (.tail (.tail .head)) (.cons (.tail (.tail .head)) (.cons (.tail (.tail .head)) (.nil))))) ?_
            refine wg_two (i := 5) (j := 6) (by kernel_rfl) ?_ ?_
            ·
              refine go_r rfl rfl rfl rfl (or_makeSlice (m := m) sI38 tI3 rfl rfl (made_fI _) (by omega) (show m ≤ maxLen by simp only [maxLen]; omega)) (kt1 rfl (fun g29 => ?_))
              refine gk (.cons (.tail (.tail (.tail .head))) (.cons (.tail (.tail (.tail .head))) (.cons (.tail (.tail (.tail .head))) (.cons (.tail (.tail (.tail .head))) (.nil))))) ?_
              refine wg_one (i := 6) (by kernel_rfl) ?_
              refine go_r rfl rfl rfl rfl (or_alloc tI22 rfl) (kt1 rfl (fun g6 => ?_))
              refine gk (.cons (.tail (.tail (.tail (.tail .head)))) (.cons (.tail (.tail (.tail (.tail .head)))) (.cons (.tail (.tail (.tail (.tail .head)))) (.cons (.tail (.tail (.tail (.tail .head)))) (.nil))))) ?_
              refine wg_one (i := 8) (by kernel_rfl) ?_
              refine go_r0 rfl rfl rfl rfl (or_store_blk (vs := [.slice (some ⟨g26, 0, none⟩) (m) (m)]) (cs' := [.slice (some ⟨g26, 0, none⟩) (m) (m)]) (.head) tI22 rfl rfl rfl rfl (Nat.le_of_ble_eq_true rfl) rfl) (kn0 ?_)
              refine gk (.cons (.tail (.tail (.tail (.tail .head)))) (.cons (.tail (.tail (.tail (.tail .head)))) (.cons (.tail (.tail (.tail (.tail .head)))) (.cons (.tail (.tail (.tail (.tail .head)))) (.nil))))) ?_
              refine wg_one (i := 9) (by kernel_rfl) ?_
              refine go_r0 rfl rfl rfl rfl (or_store_blk (vs := [.slice (some ⟨g29, 0, none⟩) (m) (m)]) (cs' := [.slice (some ⟨g29, 0, none⟩) (m) (m)]) (.tail (.tail (.tail .head))) tI38 rfl rfl rfl rfl (Nat.le_of_ble_eq_true rfl) rfl) (kn0 ?_)
              refine gk (.cons (.tail (.tail (.tail (.tail .head)))) (.cons (.tail (.tail (.tail (.tail .head)))) (.cons (.tail (.tail (.tail (.tail .head)))) (.cons (.tail (.tail (.tail (.tail .head)))) (.nil))))) ?_
              refine wg_done (by kernel_rfl) ?_
              exact fun ac_ w_ hs_ => hK5 g6 g7 g26 g29 trivial ac_ w_ (hs_.weaken (.cons rfl (.cons rfl (.cons rfl (.cons rfl (.cons rfl (.cons rfl (.cons rfl (.nil)))))))) (.cons (.tail (.tail (.tail (.tail .head)))) (.cons (.tail (.tail (.tail (.tail .head)))) (.cons (.tail (.tail (.tail (.tail .head)))) (.cons (.tail (.tail (.tail (.tail .head)))) (.cons (.tail .head) (.cons (.head) (.cons (.tail .head) (.cons (.head) (.nil))))))))))
            ·
              refine go_r rfl rfl rfl rfl (or_alloc tI22 rfl) (kt1 rfl (fun g6 => ?_))
              refine gk (.cons (.tail (.tail (.tail .head))) (.cons (.tail (.tail (.tail .head))) (.cons (.tail (.tail (.tail .head))) (.cons (.tail (.tail (.tail .head))) (.nil))))) ?_
              refine wg_two (i := 5) (j := 8) (by kernel_rfl) ?_ ?_
              ·
                refine go_r rfl rfl rfl rfl (or_makeSlice (m := m) sI38 tI3 rfl rfl (made_fI _) (by omega) (show m ≤ maxLen by simp only [maxLen]; omega)) (kt1 rfl (fun g29 => ?_))
                refine gk (.cons (.tail (.tail (.tail (.tail .head)))) (.cons (.tail (.tail (.tail (.tail .head)))) (.cons (.tail (.tail (.tail (.tail .head)))) (.cons (.tail (.tail (.tail (.tail .head)))) (.nil))))) ?_
                refine wg_one (i := 8) (by kernel_rfl) ?_
                refine go_r0 rfl rfl rfl rfl (or_store_blk (vs := [.slice (some ⟨g26, 0, none⟩) (m) (m)]) (cs' := [.slice (some ⟨g26, 0, none⟩) (m) (m)]) (.tail .head) tI22 rfl rfl rfl rfl (Nat.le_of_ble_eq_true rfl) rfl) (kn0 ?_)
                refine gk (.cons (.tail (.tail (.tail (.tail .head)))) (.cons (.tail (.tail (.tail (.tail .head)))) (.cons (.tail (.tail (.tail (.tail .head)))) (.cons (.tail (.tail (.tail (.tail .head)))) (.nil))))) ?_
                refine wg_one (i := 9) (by kernel_rfl) ?_
                refine go_r0 rfl rfl rfl rfl (or_store_blk (vs := [.slice (some ⟨g29, 0, none⟩) (m) (m)]) (cs' := [.slice (some ⟨g29, 0, none⟩) (m) (m)]) (.tail (.tail (.tail .head))) tI38 rfl rfl rfl rfl (Nat.le_of_ble_eq_true rfl) rfl) (kn0 ?_)
                refine gk (.cons (.tail (.tail (.tail (.tail .head)))) (.cons (.tail (.tail (.tail (.tail .head)))) (.cons (.tail (.tail (.tail (.tail .head)))) (.cons (.tail (.tail (.tail (.tail .head)))) (.nil))))) ?_
                refine wg_done (by kernel_rfl) ?_
                exact fun ac_ w_ hs_ => hK5 g6 g7 g26 g29 trivial ac_ w_ (hs_.weaken (.cons rfl (.cons rfl (.cons rfl (.cons rfl (.cons rfl (.cons rfl (.cons rfl (.nil)))))))) (.cons (.tail (.tail (.tail (.tail .head)))) (.cons (.tail (.tail (.tail (.tail .head)))) (.cons (.tail (.tail (.tail (.tail .head)))) (.cons (.tail (.tail (.tail (.tail .head)))) (.cons (.tail .head) (.cons (.head) (.cons (.tail .head) (.cons (.head) (.nil))))))))))
              ·
                refine go_r0 rfl rfl rfl rfl (or_store_blk (vs := [.slice (some ⟨g26, 0, none⟩) (m) (m)]) (cs' := [.slice (some ⟨g26, 0, none⟩) (m) (m)]) (.head) tI22 rfl rfl rfl rfl (Nat.le_of_ble_eq_true rfl) rfl) (kn0 ?_)
                refine gk (.cons (.tail (.tail (.tail .head))) (.cons (.tail (.tail (.tail .head))) (.cons (.tail (.tail (.tail .head))) (.cons (.tail (.tail (.tail .head))) (.nil))))) ?_
                refine wg_one (i := 5) (by kernel_rfl) ?_
                refine go_r rfl rfl rfl rfl (or_makeSlice (m := m) sI38 tI3 rfl rfl (made_fI _) (by omega) (show m ≤ maxLen by simp only [maxLen]; omega)) (kt1 rfl (fun g29 => ?_))
                refine gk (.cons (.tail (.tail (.tail (.tail .head)))) (.cons (.tail (.tail (.tail (.tail .head)))) (.cons (.tail (.tail (.tail (.tail .head)))) (.cons (.tail (.tail (.tail (.tail .head)))) (.nil))))) ?_
                refine wg_one (i := 9) (by kernel_rfl) ?_
                refine go_r0 rfl rfl rfl rfl (or_store_blk (vs := [.slice (some ⟨g29, 0, none⟩) (m) (m)]) (cs' := [.slice (some ⟨g29, 0, none⟩) (m) (m)]) (.tail (.tail (.tail .head))) tI38 rfl rfl rfl rfl (Nat.le_of_ble_eq_true rfl) rfl) (kn0 ?_)
                refine gk (.cons (.tail (.tail (.tail (.tail .head)))) (.cons (.tail (.tail (.tail (.tail .head)))) (.cons (.tail (.tail (.tail (.tail .head)))) (.cons (.tail (.tail (.tail (.tail .head)))) (.nil))))) ?_
                refine wg_done (by kernel_rfl) ?_
                exact fun ac_ w_ hs_ => hK5 g6 g7 g26 g29 trivial ac_ w_ (hs_.weaken (.cons rfl (.cons rfl (.cons rfl (.cons rfl (.cons rfl (.cons rfl (.cons rfl (.nil)))))))) (.cons (.tail (.tail (.tail (.tail .head)))) (.cons (.tail (.tail (.tail (.tail .head)))) (.cons (.tail (.tail (.tail (.tail .head)))) (.cons (.tail (.tail (.tail (.tail .head)))) (.cons (.tail (.tail .head)) (.cons (.head) (.cons (.tail .head) (.cons (.head) (.nil))))))))))
          ·
            refine go_r rfl rfl rfl rfl (or_makeSlice (m := m) sI38 tI3 rfl rfl (made_fI _) (by omega) (show m ≤ maxLen by simp only [maxLen]; omega)) (kt1 rfl (fun g29 => ?_))
            refine gk (.cons (.tail (.tail .head)) (.cons (.tail (.tail .head)) (.cons (.tail (.tail .head)) (.cons (.tail (.tail .head)) (.nil))))) ?_
            refine wg_two (i := 2) (j := 6) (by kernel_rfl) ?_ ?_
            ·
              refine go_r rfl rfl rfl rfl (or_makeSlice (m := m) sI22 tI5 rfl rfl (made_fY _) (by omega) (show m ≤ maxLen by simp only [maxLen]; omega)) (kt1 rfl (fun g26 => ?_))
              refine gk (.cons (.tail (.tail (.tail .head))) (.cons (.tail (.tail (.tail .head))) (.cons (.tail (.tail (.tail .head))) (.cons (.tail (.tail (.tail .head))) (.nil))))) ?_
              refine wg_one (i := 6) (by kernel_rfl) ?_
              refine go_r rfl rfl rfl rfl (or_alloc tI22 rfl) (kt1 rfl (fun g6 => ?_))
              refine gk (.cons (.tail (.tail (.tail (.tail .head)))) (.cons (.tail (.tail (.tail (.tail .head)))) (.cons (.tail (.tail (.tail (.tail .head)))) (.cons (.tail (.tail (.tail (.tail .head)))) (.nil))))) ?_
              refine wg_one (i := 8) (by kernel_rfl) ?_
              refine go_r0 rfl rfl rfl rfl (or_store_blk (vs := [.slice (some ⟨g26, 0, none⟩) (m) (m)]) (cs' := [.slice (some ⟨g26, 0, none⟩) (m) (m)]) (.head) tI22 rfl rfl rfl rfl (Nat.le_of_ble_eq_true rfl) rfl) (kn0 ?_)
              refine gk (.cons (.tail (.tail (.tail (.tail .head)))) (.cons (.tail (.tail (.tail (.tail .head)))) (.cons (.tail (.tail (.tail (.tail .head)))) (.cons (.tail (.tail (.tail (.tail .head)))) (.nil))))) ?_
              refine wg_one (i := 9) (by kernel_rfl) ?_
              refine go_r0 rfl rfl rfl rfl (or_store_blk (vs := [.slice (some ⟨g29, 0, none⟩) (m) (m)]) (cs' := [.slice (some ⟨g29, 0, none⟩) (m) (m)]) (.tail (.tail (.tail .head))) tI38 rfl rfl rfl rfl (Nat.le_of_ble_eq_true rfl) rfl) (kn0 ?_)
              refine gk (.cons (.tail (.tail (.tail (.tail .head)))) (.cons (.tail (.tail (.tail (.tail .head)))) (.cons (.tail (.tail (.tail (.tail .head)))) (.cons (.tail (.tail (.tail (.tail .head)))) (.nil))))) ?_
              refine wg_done (by kernel_rfl) ?_
              exact fun ac_ w_ hs_ => hK5 g6 g7 g26 g29 trivial ac_ w_ (hs_.weaken (.cons rfl (.cons rfl (.cons rfl (.cons rfl (.cons rfl (.cons rfl (.cons rfl (.nil)))))))) (.cons (.tail (.tail (.tail (.tail .head)))) (.cons (.tail (.tail (.tail (.tail .head)))) (.cons (.tail (.tail (.tail (.tail .head)))) (.cons (.tail (.tail (.tail (.tail .head)))) (.cons (.tail .head) (.cons (.head) (.cons (.head) (.cons (.head) (.nil))))))))))
            ·
              refine go_r rfl rfl rfl rfl (or_alloc tI22 rfl) (kt1 rfl (fun g6 => ?_))
              refine gk (.cons (.tail (.tail (.tail .head))) (.cons (.tail (.tail (.tail .head))) (.cons (.tail (.tail (.tail .head))) (.cons (.tail (.tail (.tail .head))) (.nil))))) ?_
              refine wg_one (i := 2) (by kernel_rfl) ?_
              refine go_r rfl rfl rfl rfl (or_makeSlice (m := m) sI22 tI5 rfl rfl (made_fY _) (by omega) (show m ≤ maxLen by simp only [maxLen]; omega)) (kt1 rfl (fun g26 => ?_))
              refine gk (.cons (.tail (.tail (.tail (.tail .head)))) (.cons (.tail (.tail (.tail (.tail .head)))) (.cons (.tail (.tail (.tail (.tail .head)))) (.cons (.tail (.tail (.tail (.tail .head)))) (.nil))))) ?_
              refine wg_one (i := 8) (by kernel_rfl) ?_
              refine go_r0 rfl rfl rfl rfl (or_store_blk (vs := [.slice (some ⟨g26, 0, none⟩) (m) (m)]) (cs' := [.slice (some ⟨g26, 0, none⟩) (m) (m)]) (.tail .head) tI22 rfl rfl rfl rfl (Nat.le_of_ble_eq_true rfl) rfl) (kn0 ?_)
              refine gk (.cons (.tail (.tail (.tail (.tail .head)))) (.cons (.tail (.tail (.tail (.tail .head)))) (.cons (.tail (.tail (.tail (.tail .head)))) (.cons (.tail (.tail (.tail (.tail .head)))) (.nil))))) ?_
              refine wg_one (i := 9) (by kernel_rfl) ?_
              refine go_r0 rfl rfl rfl rfl (or_store_blk (vs := [.slice (some ⟨g29, 0, none⟩) (m) (m)]) (cs' := [.slice (some ⟨g29, 0, none⟩) (m) (m)]) (.tail (.tail (.tail .head))) tI38 rfl rfl rfl rfl (Nat.le_of_ble_eq_true rfl) rfl) (kn0 ?_)
              refine gk (.cons (.tail (.tail (.tail (.tail .head)))) (.cons (.tail (.tail (.tail (.tail .head)))) (.cons (.tail (.tail (.tail (.tail .head)))) (.cons (.tail (.tail (.tail (.tail .head)))) (.nil))))) ?_
              refine wg_done (by kernel_rfl) ?_
              exact fun ac_ w_ hs_ => hK5 g6 g7 g26 g29 trivial ac_ w_ (hs_.weaken (.cons rfl (.cons rfl (.cons rfl (.cons rfl (.cons rfl (.cons rfl (.cons rfl (.nil)))))))) (.cons (.tail (.tail (.tail (.tail .head)))) (.cons (.tail (.tail (.tail (.tail .head)))) (.cons (.tail (.tail (.tail (.tail .head)))) (.cons (.tail (.tail (.tail (.tail .head)))) (.cons (.tail .head) (.cons (.head) (.cons (.head) (.cons (.head) (.nil))))))))))
          ·
            refine go_r rfl rfl rfl rfl (or_alloc tI22 rfl) (kt1 rfl (fun g6 => ?_))
            refine gk (.cons (.tail (.tail .head)) (.cons (.tail (.tail .head)) (.cons (.tail (.tail .head)) (.cons (.tail (.tail .head)) (.nil))))) ?_
            refine wg_two (i := 2) (j := 5) (by kernel_rfl) ?_ ?_
            ·
              refine go_r rfl rfl rfl rfl (or_makeSlice (m := m) sI22 tI5 rfl rfl (made_fY _) (by omega) (show m ≤ maxLen by simp only [maxLen]; omega)) (kt1 rfl (fun g26 => ?_))
              refine gk (.cons (.tail (.tail (.tail .head))) (.cons (.tail (.tail (.tail .head))) (.cons (.tail (.tail (.tail .head))) (.cons (.tail (.tail (.tail .head))) (.nil))))) ?_
              refine wg_two (i := 5) (j := 8) (by kernel_rfl) ?_ ?_
              ·
                refine go_r rfl rfl rfl rfl (or_makeSlice (m := m) sI38 tI3 rfl rfl (made_fI _) (by omega) (show m ≤ maxLen by simp only [maxLen]; omega)) (kt1 rfl (fun g29 => ?_))
                refine gk (.cons (.tail (.tail (.tail (.tail .head)))) (.cons (.tail (.tail (.tail (.tail .head)))) (.cons (.tail (.tail (.tail (.tail .head)))) (.cons (.tail (.tail (.tail (.tail .head)))) (.nil))))) ?_
                refine wg_one (i := 8) (by kernel_rfl) ?_
                refine go_r0 rfl rfl rfl rfl (or_store_blk (vs := [.slice (some ⟨g26, 0, none⟩) (m) (m)]) (cs' := [.slice (some ⟨g26, 0, none⟩) (m) (m)]) (.tail (.tail .head)) tI22 rfl rfl rfl rfl (Nat.le_of_ble_eq_true rfl) rfl) (kn0 ?_)
                refine gk (.cons (.tail (.tail (.tail (.tail .head)))) (.cons (.tail (.tail (.tail (.tail .head)))) (.cons (.tail (.tail (.tail (.tail .head)))) (.cons (.tail (.tail (.tail (.tail .head)))) (.nil))))) ?_
                refine wg_one (i := 9) (by kernel_rfl) ?_
                refine go_r0 rfl rfl rfl rfl (or_store_blk (vs := [.slice (some ⟨g29, 0, none⟩) (m) (m)]) (cs' := [.slice (some ⟨g29, 0, none⟩) (m) (m)]) (.tail (.tail (.tail .head))) tI38 rfl rfl rfl rfl (Nat.le_of_ble_eq_true rfl) rfl) (kn0 ?_)
                refine gk (.cons (.tail (.tail (.tail (.tail .head)))) (.cons (.tail (.tail (.tail (.tail .head)))) (.cons (.tail (.tail (.tail (.tail .head)))) (.cons (.tail (.tail (.tail (.tail .head)))) (.nil))))) ?_
                refine wg_done (by kernel_rfl) ?_
                exact fun ac_ w_ hs_ => hK5 g6 g7 g26 g29 trivial ac_ w_ (hs_.weaken (.cons rfl (.cons rfl (.cons rfl (.cons rfl (.cons rfl (.cons rfl (.cons rfl (.nil)))))))) (.cons (.tail (.tail (.tail (.tail .head)))) (.cons (.tail (.tail (.tail (.tail .head)))) (.cons (.tail (.tail (.tail (.tail .head)))) (.cons (.tail (.tail (.tail (.tail .head)))) (.cons (.tail .head) (.cons (.head) (.cons (.tail .head) (.cons (.head) (.nil))))))))))
              ·
                refine go_r0 rfl rfl rfl rfl (or_store_blk (vs := [.slice (some ⟨g26, 0, none⟩) (m) (m)]) (cs' := [.slice (some ⟨g26, 0, none⟩) (m) (m)]) (.tail .head) tI22 rfl rfl rfl rfl (Nat.le_of_ble_eq_true rfl) rfl) (kn0 ?_)
                refine gk (.cons (.tail (.tail (.tail .head))) (.cons (.tail (.tail (.tail .head))) (.cons (.tail (.tail (.tail .head))) (.cons (.tail (.tail (.tail .head))) (.nil))))) ?_
                refine wg_one (i := 5) (by kernel_rfl) ?_
                refine go_r rfl rfl rfl rfl (or_makeSlice (m := m) sI38 tI3 rfl rfl (made_fI _) (by omega) (show m ≤ maxLen by simp only [maxLen]; omega)) (kt1 rfl (fun g29 => ?_))
                refine gk (.cons (.tail (.tail (.tail (.tail .head)))) (.cons (.tail (.tail (.tail (.tail .head)))) (.cons (.tail (.tail (.tail (.tail .head)))) (.cons (.tail (.tail (.tail (.tail .head)))) (.nil))))) ?_
                refine wg_one (i := 9) (by kernel_rfl) ?_
                refine go_r0 rfl rfl rfl rfl (or_store_blk (vs := [.slice (some ⟨g29, 0, none⟩) (m) (m)]) (cs' := [.slice (some ⟨g29, 0, none⟩) (m) (m)]) (.tail (.tail (.tail .head))) tI38 rfl rfl rfl rfl (Nat.le_of_ble_eq_true rfl) rfl) (kn0 ?_)
                refine gk (.cons (.tail (.tail (.tail (.tail .head)))) (.cons (.tail (.tail (.tail (.tail .head)))) (.cons (.tail (.tail (.tail (.tail .head)))) (.cons (.tail (.tail (.tail (.tail .head)))) (.nil))))) ?_
                refine wg_done (by kernel_rfl) ?_
                exact fun ac_ w_ hs_ => hK5 g6 g7 g26 g29 trivial ac_ w_ (hs_.weaken (.cons rfl (.cons rfl (.cons rfl (.cons rfl (.cons rfl (.cons rfl (.cons rfl (.nil)))))))) (.cons (.tail (.tail (.tail (.tail .head)))) (.cons (.tail (.tail (.tail (.tail .head)))) (.cons (.tail (.tail (.tail (.tail .head)))) (.cons (.tail (.tail (.tail (.tail .head)))) (.cons (.tail (.tail .head)) (.cons (.head) (.cons (.tail .head) (.cons (.head) (.nil))))))))))
            ·
              refine go_r rfl rfl rfl rfl (or_makeSlice (m := m) sI38 tI3 rfl rfl (made_fI _) (by omega) (show m ≤ maxLen by simp only [maxLen]; omega)) (kt1 rfl (fun g29 => ?_))
              refine gk (.cons (.tail (.tail (.tail .head))) (.cons (.tail (.tail (.tail .head))) (.cons (.tail (.tail (.tail .head))) (.cons (.tail (.tail (.tail .head))) (.nil))))) ?_
              refine wg_one (i := 2) (by kernel_rfl) ?_
              refine go_r rfl rfl rfl rfl (or_makeSlice (m := m) sI22 tI5 rfl rfl (made_fY _) (by omega) (show m ≤ maxLen by simp only [maxLen]; omega)) (kt1 rfl (fun g26 => ?_))
              refine gk (.cons (.tail (.tail (.tail (.tail .head)))) (.cons (.tail (.tail (.tail (.tail .head)))) (.cons (.tail (.tail (.tail (.tail .head)))) (.cons (.tail (.tail (.tail (.tail .head)))) (.nil))))) ?_
              refine wg_one (i := 8) (by kernel_rfl) ?_
              refine go_r0 rfl rfl rfl rfl (or_store_blk (vs := [.slice (some ⟨g26, 0, none⟩) (m) (m)]) (cs' := [.slice (some ⟨g26, 0, none⟩) (m) (m)]) (.tail (.tail .head)) tI22 rfl rfl rfl rfl (Nat.le_of_ble_eq_true rfl) rfl) (kn0 ?_)
              refine gk (.cons (.tail (.tail (.tail (.tail .head)))) (.cons (.tail (.tail (.tail (.tail .head)))) (.cons (.tail (.tail (.tail (.tail .head)))) (.cons (.tail (.tail (.tail (.tail .head)))) (.nil))))) ?_
              refine wg_one (i := 9) (by kernel_rfl) ?_
              refine go_r0 rfl rfl rfl rfl (or_store_blk (vs := [.slice (some ⟨g29, 0, none⟩) (m) (m)]) (cs' := [.slice (some ⟨g29, 0, none⟩) (m) (m)]) (.tail (.tail (.tail .head))) tI38 rfl rfl rfl rfl (Nat.le_of_ble_eq_true rfl) rfl) (kn0 ?_)
              refine gk (.cons (.tail (.tail (.tail (.tail .head)))) (.cons (.tail (.tail (.tail (.tail .head)))) (.cons (.tail (.tail (.tail (.tail .head)))) (.cons (.tail (.tail (.tail (.tail .head)))) (.nil))))) ?_
              refine wg_done (by kernel_rfl) ?_
              exact fun ac_ w_ hs_ => hK5 g6 g7 g26 g29 trivial ac_ w_ (hs_.weaken (.cons rfl (.cons rfl (.cons rfl (.cons rfl (.cons rfl (.cons rfl (.cons rfl (.nil)))))))) (.cons (.tail (.tail (.tail (.tail .head)))) (.cons (.tail (.tail (.tail (.tail .head)))) (.cons (.tail (.tail (.tail (.tail .head)))) (.cons (.tail (.tail (.tail (.tail .head)))) (.cons (.tail .head) (.cons (.head) (.cons (.head) (.cons (.head) (.nil))))))))))
      ·
        intro g6 g7 g26 g29 hz5
        have hso26 : ∃ a, some (⟨g26, 0, none⟩ : Addr) = some a := ⟨_, rfl⟩
        have hso29 : ∃ a, some (⟨g29, 0, none⟩ : Addr) = some a := ⟨_, rfl⟩
        refine cw_seq ?_
        refine cw_seq ?_
        refine cw_region ?_
        refine wl_v (ov_fieldAddr fI25_0 some_lit rfl) rfl rfl rfl ?_
        refine wl_v (ov_load tI3 (holds_blk (List.Mem.tail _ (List.Mem.tail _ (List.Mem.head _)))) rfl rfl) rfl rfl rfl ?_
        refine wl_v (ov_sub (r := ((m : Nat) : Int) - 1) rfl rfl rfl (by omega)) rfl rfl rfl ?_
        refine wl_r (or_alloc tI3 rfl) rfl rfl (kt1 rfl (fun g8 => ?_))
        refine wl_r0 (or_store_blk (vs := [.int .i64 (((m : Nat) : Int) - 1)]) (cs' := [.int .i64 (((m : Nat) : Int) - 1)]) (.head) tI3 rfl rfl rfl rfl (Nat.le_of_ble_eq_true rfl) rfl) rfl rfl (kn0 ?_)
        refine wl_nil ?_
        refine ce_then ?_
        refine cw_block ?_
        refine cw_loopD6 (fun (j : Nat) (rs : List Nat) (g8 : Nat) (A5 : Option Addr) (k5 : Nat) (c5 : Nat) => rs.map mkD) (fun (j : Nat) (rs : List Nat) (g8 : Nat) (A5 : Option Addr) (k5 : Nat) (c5 : Nat) => [(1, elp (some ⟨g1, 0, none⟩) (0)), (5, elp (some ⟨g5, 0, none⟩) (0)), (6, elp (some ⟨g6, 0, none⟩) (0)), (7, elp (some ⟨g7, 0, none⟩) (0)), (8, elp (some ⟨g8, 0, none⟩) (0))]) (fun (j : Nat) (rs : List Nat) (g8 : Nat) (A5 : Option Addr) (k5 : Nat) (c5 : Nat) => [blk g8 [.int .i64 (((m : Nat) : Int) - 1 - ((j : Nat) : Int))] 3, blk g5 [.slice A5 ((leftC m (goneC m es j)).length) (k5)] 38, row 3 1 A5 ((leftC m (goneC m es j)).length) (c5) (cells fI (leftC m (goneC m es j))), blk g1 [.int .i64 (((m : Nat) : Int)), .slice A (es.length) (c)] 25, defE rs, blk g6 [.slice (some ⟨g26, 0, none⟩) (m) (m)] 22, blk g7 [.slice (some ⟨g29, 0, none⟩) (m) (m)] 38, row 5 1 (some ⟨g26, 0, none⟩) (m) (m) (cells fY (List.replicate (m - j) 0 ++ (letsC m es j).reverse.map UInt8.toNat)), row 3 1 (some ⟨g29, 0, none⟩) (m) (m) (cells fI (List.replicate (m - j) 0 ++ (goneC m es j).reverse))]) (fun (j : Nat) (rs : List Nat) (g8 : Nat) (A5 : Option Addr) (k5 : Nat) (c5 : Nat) => j ≤ m ∧ OkTo m es j ∧ (leftC m (goneC m es j)).length ≤ k5) (fun (j : Nat) (rs : List Nat) (g8 : Nat) (A5 : Option Addr) (k5 : Nat) (c5 : Nat) => m - j) 0 ([]) g8 A2_23 c2_23 c2_23 ⟨by omega, fun i hi => absurd hi (Nat.not_lt_zero _), by rw [leftC_zero, ids_lenC]; omega⟩ rfl (.cons rfl (.cons rfl (.cons rfl (.cons rfl (.cons rfl (.nil)))))) (.consE (show blk g8 [.int .i64 (((m : Nat) : Int) - 1)] 3 = blk g8 [.int .i64 (((m : Nat) : Int) - 1 - ((0 : Nat) : Int))] 3 by rw [show ((m : Nat) : Int) - 1 - ((0 : Nat) : Int) = ((m : Nat) : Int) - 1 from by omega]) (.head) (.consE (show blk g5 [.slice A2_23 ((idx m (-1)).length) (c2_23)] 38 = blk g5 [.slice A2_23 ((leftC m (goneC m es 0)).length) (c2_23)] 38 by rw [leftC_zero, hil]) (.head) (.consE (show row 3 1 A2_23 ((idx m (-1)).length) (c2_23) (cells fI (idx m (-1))) = row 3 1 A2_23 ((leftC m (goneC m es 0)).length) (c2_23) (cells fI (leftC m (goneC m es 0))) by rw [leftC_zero, hil]) (.head) (.cons (.head) (.consE (show defE ([]) = defE ([]) by rfl) (.head) (.cons (.head) (.cons (.head) (.consE (show row 5 1 (some ⟨g26, 0, none⟩) (m) (m) (cells fY (List.replicate m 0)) = row 5 1 (some ⟨g26, 0, none⟩) (m) (m) (cells fY (List.replicate (m - 0) 0 ++ (letsC m es 0).reverse.map UInt8.toNat)) by rw [Nat.sub_zero]; simp [letsC]) (.head) (.consE (show row 3 1 (some ⟨g29, 0, none⟩) (m) (m) (cells fI (List.replicate m 0)) = row 3 1 (some ⟨g29, 0, none⟩) (m) (m) (cells fI (List.replicate (m - 0) 0 ++ (goneC m es 0).reverse)) by rw [Nat.sub_zero]; simp [goneC]) (.head) (.nil)))))))))) ?_
        intro R0 j rs g8 A5 k5 c5 hk hR0
        obtain ⟨hq1, hq2, hq3⟩ := hk
        have hll := leftC_len hq2
        refine cw_seq ?_
        refine cw_seq ?_
        refine cw_region ?_
        refine wl_v (ov_load tI3 (holds_blk (List.Mem.head _)) rfl rfl) rfl rfl rfl ?_
        refine wl_if (ov_geq rfl rfl) rfl rfl rfl (fun c34 => ?_) (fun c34 => ?_)
        ·
          have hj : j < m := by omega
          refine ct_keep (L' := [(1, elp (some ⟨g1, 0, none⟩) (0)), (5, elp (some ⟨g5, 0, none⟩) (0)), (6, elp (some ⟨g6, 0, none⟩) (0)), (7, elp (some ⟨g7, 0, none⟩) (0)), (8, elp (some ⟨g8, 0, none⟩) (0)), (33, .int .i64 (((m : Nat) : Int) - 1 - ((j : Nat) : Int))), (34, .bool true)]) (.cons rfl (.cons rfl (.cons rfl (.cons rfl (.cons rfl (.cons rfl (.cons rfl (.nil)))))))) (.consE (show blk g8 [.int .i64 (((m : Nat) : Int) - 1 - ((j : Nat) : Int))] 3 = blk g8 [.int .i64 (((m - 1 - j : Nat) : Int))] 3 by rw [show ((m : Nat) : Int) - 1 - ((j : Nat) : Int) = (((m - 1 - j : Nat) : Nat) : Int) from by omega]) (.head) (.cons (.head) (.cons (.head) (.cons (.head) (.cons (.head) (.cons (.head) (.cons (.head) (.cons (.head) (.cons (.head) (.nil)))))))))) ?_
          refine wl_nil ?_
          refine ce_then ?_
          refine cw_true rfl ?_
          refine cw_skip ?_
          refine ce_then ?_
          refine cw_seq ?_
          refine cw_block ?_
          refine cw_seq ?_
          refine cw_region ?_
          refine wl_r (or_alloc tI4 rfl) rfl rfl (kt1 rfl (fun g9 => ?_))
          refine wl_r0 (or_store_blk (vs := [.bool false]) (cs' := [.bool false]) (.head) tI4 rfl rfl rfl rfl (Nat.le_of_ble_eq_true rfl) rfl) rfl rfl (kn0 ?_)
          refine wl_nil ?_
          refine ce_then ?_
          refine cw_seq ?_
          refine cw_seq ?_
          refine cw_region ?_
          refine wl_v (ov_load tI38 (holds_blk (List.Mem.tail _ (List.Mem.tail _ (List.Mem.head _)))) rfl rfl) rfl rfl rfl ?_
          refine wl_r (or_call (fv := []) (vs := [.slice A5 ((leftC m (goneC m es j)).length) (k5)]) (cs := []) en69 rfl rfl (call_x1 (fun w hw => backward_c w A5 ((leftC m (goneC m es j)).length) k5 (leftC m (goneC m es j)) ((holds_row (List.Mem.tail _ (List.Mem.tail _ (List.Mem.tail _ (List.Mem.head _))))) w hw) rfl hq3))) rfl rfl (kt1p rfl (fun g_38 h_38 => ?_))
          refine wl_nil ?_
          refine ce_then ?_
          refine cw_block ?_
          refine ct_keep (L' := [(1, elp (some ⟨g1, 0, none⟩) (0)), (5, elp (some ⟨g5, 0, none⟩) (0)), (6, elp (some ⟨g6, 0, none⟩) (0)), (7, elp (some ⟨g7, 0, none⟩) (0)), (8, elp (some ⟨g8, 0, none⟩) (0)), (9, elp (some ⟨g9, 0, none⟩) (0)), (33, .int .i64 (((m : Nat) : Int) - 1 - ((j : Nat) : Int))), (34, .bool true), (37, .slice A5 ((leftC m (goneC m es j)).length) (k5)), (38, .func (.func 101) #[] #[elp (some ⟨g_38, 0, none⟩) (0)])]) (.cons rfl (.cons rfl (.cons rfl (.cons rfl (.cons rfl (.cons rfl (.cons rfl (.cons rfl (.cons rfl (.cons rfl (.nil))))))))))) (.cons (.tail (.tail (.tail (.tail (.tail (.tail .head)))))) (.cons (.head) (.cons (.head) (.cons (.head) (.cons (.head) (.cons (.head) (.cons (.head) (.cons (.head) (.cons (.head) (.cons (.head) (.cons (.head) (.nil)))))))))))) ?_
          refine cw_range (rs := rs) (p1 := 39) (p2 := 40) (eb := 2) (xs := (leftC m (goneC m es j))) (fun jq => ¬ okC es (leftC m (goneC m es j)) (((m - 1 - j : Nat) : Nat) : Int) ((leftC m (goneC m es j)).getD jq 0)) (fun jq (yq : Option Addr × Nat × Nat) => okC es (leftC m (goneC m es j)) (((m - 1 - j : Nat) : Nat) : Int) ((leftC m (goneC m es j)).getD jq 0) ∧ ((leftC m (goneC m es j)).filter (fun u => !decide (u = ((leftC m (goneC m es j)).getD jq 0)))).length ≤ yq.2.1) (fun jq yq => [blk g9 [.bool true] 4, blk g8 [.int .i64 (((m - 1 - j : Nat) : Int))] 3, blk g5 [.slice yq.1 (((leftC m (goneC m es j)).filter (fun u => !decide (u = ((leftC m (goneC m es j)).getD jq 0)))).length) (yq.2.1)] 38, row 3 1 yq.1 (((leftC m (goneC m es j)).filter (fun u => !decide (u = ((leftC m (goneC m es j)).getD jq 0)))).length) (yq.2.2) (cells fI ((leftC m (goneC m es j)).filter (fun u => !decide (u = ((leftC m (goneC m es j)).getD jq 0))))), blk g1 [.int .i64 (((m : Nat) : Int)), .slice A (es.length) (c)] 25, blk g6 [.slice (some ⟨g26, 0, none⟩) (m) (m)] 22, blk g7 [.slice (some ⟨g29, 0, none⟩) (m) (m)] 38, row 5 1 (some ⟨g26, 0, none⟩) (m) (m) (cells fY ((List.replicate (m - j) 0 ++ (letsC m es j).reverse.map UInt8.toNat).set (m - 1 - j) (if 0 < nbr es (leftC m (goneC m es j)) ((leftC m (goneC m es j)).getD jq 0) then 100 else 105))), row 3 1 (some ⟨g29, 0, none⟩) (m) (m) (cells fI ((List.replicate (m - j) 0 ++ (goneC m es j).reverse).set (m - 1 - j) ((leftC m (goneC m es j)).getD jq 0)))]) back_c en101 rfl (List.Mem.head _) rfl (by omega) (fun H2 hk w hw => (holds_row (List.Mem.tail _ (List.Mem.tail _ (List.Mem.tail _ (List.Mem.tail _ (List.Mem.head _)))))) w (hk.ss hw)) rfl rfl (fun jq hjq lq dq rq hrq => ?_) (fun dq hall => ?_) (fun dq jq yq hjq hlater hyq => ?_)
          ·
            have hlg := left_get (gn := goneC m es j) hjq
            have hnb := nbr_bd es (leftC m (goneC m es j)) ((leftC m (goneC m es j)).getD jq 0)
            have hfl := List.length_filter_le (fun u => !decide (u = ((leftC m (goneC m es j)).getD jq 0))) (leftC m (goneC m es j))
            refine cwi_region (fun _ _ h => h) rfl ?_
            refine wl_r (or_alloc tI3 rfl) rfl rfl (kt1 rfl (fun g11 => ?_))
            refine wl_r0 (or_store_blk (vs := [.int .i64 (((leftC m (goneC m es j)).getD jq 0))]) (cs' := [.int .i64 (((leftC m (goneC m es j)).getD jq 0))]) (.head) tI3 rfl rfl rfl rfl (Nat.le_of_ble_eq_true rfl) rfl) rfl rfl (kn0 ?_)
            refine wl_nil ?_
            refine ct_keep (L' := [(1, elp (some ⟨g1, 0, none⟩) (0)), (5, elp (some ⟨g5, 0, none⟩) (0)), (6, elp (some ⟨g6, 0, none⟩) (0)), (7, elp (some ⟨g7, 0, none⟩) (0)), (8, elp (some ⟨g8, 0, none⟩) (0)), (9, elp (some ⟨g9, 0, none⟩) (0)), (11, elp (some ⟨g11, 0, none⟩) (0)), (33, .int .i64 (((m : Nat) : Int) - 1 - ((j : Nat) : Int))), (34, .bool true), (37, .slice A5 ((leftC m (goneC m es j)).length) (k5)), (38, .func (.func 101) #[] #[elp (some ⟨g_38, 0, none⟩) (0)]), (39, .int .i64 (((jq : Nat) : Int))), (40, .int .i64 (((leftC m (goneC m es j)).getD jq 0)))]) (.cons rfl (.cons rfl (.cons rfl (.cons rfl (.cons rfl (.cons rfl (.cons rfl (.cons rfl (.cons rfl (.cons rfl (.cons rfl (.cons rfl (.cons rfl (.nil)))))))))))))) (.cons (.tail .head) (.cons (.head) (.cons (.head) (.cons (.head) (.cons (.head) (.cons (.head) (.cons (.head) (.cons (.head) (.cons (.head) (.cons (.head) (.cons (.head) (.cons (.head) (.cons (.head) (.nil)))))))))))))) ?_
            refine ce_begin hrq.1 ?_
            refine cwi_block ?_
            refine cwi_seq ?_
            refine cwi_region (fun _ _ h => h) rfl ?_
            refine wl_v (ov_load tI38 (holds_blk (List.Mem.tail _ (List.Mem.tail _ (List.Mem.tail _ (List.Mem.tail _ (List.Mem.tail _ (List.Mem.tail _ (List.Mem.head _)))))))) rfl rfl) rfl rfl rfl ?_
            refine wl_v (ov_makeFunc (vs := #[elp (some ⟨g11, 0, none⟩) (0), elp (some ⟨g1, 0, none⟩) (0)]) rfl) rfl rfl rfl ?_
            refine wl_r (or_call (fv := []) (vs := [.slice A5 ((leftC m (goneC m es j)).length) (k5), .func (.func 70) #[] #[elp (some ⟨g11, 0, none⟩) (0), elp (some ⟨g1, 0, none⟩) (0)]]) (cs := []) en60 rfl rfl (call_v (fun w hw => count_c w A5 ((leftC m (goneC m es j)).length) k5 (leftC m (goneC m es j)) 70 ([elp (some ⟨g11, 0, none⟩) (0), elp (some ⟨g1, 0, none⟩) (0)]) (adjP es ((leftC m (goneC m es j)).getD jq 0)) ((holds_row (List.Mem.tail _ (List.Mem.tail _ (List.Mem.tail _ (List.Mem.tail _ (List.Mem.tail _ (List.Mem.tail _ (List.Mem.tail _ (List.Mem.head _))))))))) w hw) rfl hq3 (by first | assumption | omega | (simp; omega)) en70 (fun x hx w' hb => code1_c w' x g11 g1 ((leftC m (goneC m es j)).getD jq 0) ((m : Nat) : Int) A es.length c es ((holds_blk (List.Mem.tail _ (List.Mem.head _))) w' (hw.later hb)) ((holds_blk (List.Mem.tail _ (List.Mem.tail _ (List.Mem.tail _ (List.Mem.tail _ (List.Mem.tail _ (List.Mem.tail _ (List.Mem.tail _ (List.Mem.tail _ (List.Mem.head _)))))))))) w' (hw.later hb)) ((holds_old oA) w' (hw.later hb)) rfl lA (by omega))))) rfl rfl (kt0 rfl ?_)
            refine wl_v (ov_assign rfl) rfl rfl rfl ?_
            refine wl_nil ?_
            refine cei_then ?_
            refine cwi_seq ?_
            refine cwi_seq ?_
            refine cwi_region (fun _ _ h => h) rfl ?_
            refine wl_v (ov_move rfl) rfl rfl rfl ?_
            refine wl_if (ov_neq rfl rfl) rfl rfl rfl (fun c45 => ?_) (fun c45 => ?_)
            ·
              refine wl_v (ov_move rfl) rfl rfl rfl ?_
              refine wl_go rfl rfl ?_
              refine wl_v (ov_move rfl) rfl rfl rfl ?_
              refine wl_go rfl rfl ?_
              refine wl_v (ov_load tI3 (holds_blk (List.Mem.tail _ (List.Mem.tail _ (List.Mem.tail _ (List.Mem.tail _ (List.Mem.tail _ (List.Mem.head _))))))) rfl rfl) rfl rfl rfl ?_
              refine wl_go rfl rfl ?_
              refine wl_if (ov_neq rfl rfl) rfl rfl rfl (fun c49 => ?_) (fun c49 => ?_)
              ·
                refine wl_v (ov_pick_t rfl rfl) rfl rfl rfl ?_
                refine wl_nil ?_
                refine cei_then ?_
                refine cwi_true rfl ?_
                refine cwi_exit ?_
                refine ce_then_exit ?_
                refine ce_hit ?_
                exact ce_goon hrq (.cons (.head) (.cons (.tail .head) (.cons (.tail .head) (.cons (.tail .head) (.cons (.tail .head) (.cons (.tail .head) (.cons (.tail .head) (.cons (.tail .head) (.cons (.tail .head) (.cons (.tail .head) (.cons (.tail .head) (.cons (.tail .head) (.nil))))))))))))) (fun h => h.elim (fun h1 => c45 h1) (fun h1 => c49 h1))
              ·
                refine wl_v (ov_pick_t rfl rfl) rfl rfl rfl ?_
                refine wl_nil ?_
                refine cei_then ?_
                refine cwi_false rfl ?_
                refine cwi_skip ?_
                refine cei_then ?_
                refine cwi_seq ?_
                refine cwi_draw rfl mixO [] (.cons (.head) (.cons (.head) (.cons (.head) (.cons (.head) (.cons (.head) (.cons (.head) (.cons (.head) (.cons (.head) (.cons (.head) (.cons (.head) (.cons (.head) (.nil)))))))))))) rfl ?_
                refine wg_take (i := 0) rfl (ov_load tI22 (holds_blk (List.Mem.tail _ (List.Mem.tail _ (List.Mem.tail _ (List.Mem.tail _ (List.Mem.tail _ (List.Mem.tail _ (List.Mem.tail _ (List.Mem.tail _ (List.Mem.tail _ (List.Mem.head _))))))))))) rfl rfl) rfl rfl rfl (by kernel_rfl) (by kernel_rfl) (by kernel_rfl) (by kernel_rfl) ?_
                refine wg_take (i := 1) rfl (ov_load tI3 (holds_blk (List.Mem.tail _ (List.Mem.tail _ (List.Mem.tail _ (List.Mem.tail _ (List.Mem.tail _ (List.Mem.head _))))))) rfl rfl) rfl rfl rfl (by kernel_rfl) (by kernel_rfl) (by kernel_rfl) (by kernel_rfl) ?_
                refine wg_take (i := 2) rfl (ov_load tI38 (holds_blk (List.Mem.tail _ (List.Mem.tail _ (List.Mem.tail _ (List.Mem.tail _ (List.Mem.tail _ (List.Mem.tail _ (List.Mem.tail _ (List.Mem.tail _ (List.Mem.tail _ (List.Mem.tail _ (List.Mem.head _)))))))))))) rfl rfl) rfl rfl rfl (by kernel_rfl) (by kernel_rfl) (by kernel_rfl) (by kernel_rfl) ?_
                refine wg_take (i := 3) rfl (ov_load tI3 (holds_blk (List.Mem.tail _ (List.Mem.tail _ (List.Mem.tail _ (List.Mem.tail _ (List.Mem.tail _ (List.Mem.head _))))))) rfl rfl) rfl rfl rfl (by kernel_rfl) (by kernel_rfl) (by kernel_rfl) (by kernel_rfl) ?_
                refine wg_take (i := 4) rfl (ov_load tI3 (holds_blk (List.Mem.tail _ (List.Mem.head _))) rfl rfl) rfl rfl rfl (by kernel_rfl) (by kernel_rfl) (by kernel_rfl) (by kernel_rfl) ?_
                refine wg_take (i := 5) rfl (ov_index (k := m - 1 - j) (c := m) sI22 tI5 rfl rfl (fun _ _ => hso26) (show m - 1 - j < m from (by first | omega | (rw [l26_len]; omega) | (rw [List.length_set, l26_len]; omega) | (rw [l29_len]; omega)))) rfl rfl rfl (by kernel_rfl) (by kernel_rfl) (by kernel_rfl) (by kernel_rfl) ?_
                refine wg_one (i := 6) (by kernel_rfl) ?_
                refine go_r0 rfl rfl rfl rfl (or_store_row (vs := [.int .u8 (105)]) (cs' := cells fY ((List.replicate (m - j) 0 ++ (letsC m es j).reverse.map UInt8.toNat).set (m - 1 - j) 105)) (.tail (.tail (.tail (.tail (.tail (.tail (.tail (.tail (.tail (.tail (.tail .head))))))))))) tI5 rfl rfl rfl rfl (by rw [cells_length fY_len]; have hlt := (show m - 1 - j < (List.replicate (m - j) 0 ++ (letsC m es j).reverse.map UInt8.toNat).length from (by first | omega | (rw [l26_len]; omega) | (rw [List.length_set, l26_len]; omega) | (rw [l29_len]; omega))); simp only [List.length_cons, List.length_nil]; omega) (by simp) (cells_splice fY_len (show m - 1 - j < (List.replicate (m - j) 0 ++ (letsC m es j).reverse.map UInt8.toNat).length from (by first | omega | (rw [l26_len]; omega) | (rw [List.length_set, l26_len]; omega) | (rw [l29_len]; omega))) 105)) (kn0 ?_)
                refine gk (.cons (.tail .head) (.cons (.tail .head) (.cons (.tail .head) (.cons (.tail .head) (.cons (.tail .head) (.cons (.tail .head) (.cons (.tail .head) (.cons (.tail .head) (.cons (.tail .head) (.cons (.tail .head) (.cons (.tail .head) (.nil)))))))))))) ?_
                refine wg_take (i := 7) rfl (ov_index (k := m - 1 - j) (c := m) sI38 tI3 rfl rfl (fun _ _ => hso29) (show m - 1 - j < m from (by first | omega | (rw [l26_len]; omega) | (rw [List.length_set, l26_len]; omega) | (rw [l29_len]; omega)))) rfl rfl rfl (by kernel_rfl) (by kernel_rfl) (by kernel_rfl) (by kernel_rfl) ?_
                refine wg_one (i := 8) (by kernel_rfl) ?_
                refine go_r0 rfl rfl rfl rfl (or_store_row (vs := [.int .i64 (((leftC m (goneC m es j)).getD jq 0))]) (cs' := cells fI ((List.replicate (m - j) 0 ++ (goneC m es j).reverse).set (m - 1 - j) ((leftC m (goneC m es j)).getD jq 0))) (.tail (.tail (.tail (.tail (.tail (.tail (.tail (.tail (.tail (.tail (.tail (.tail .head)))))))))))) tI3 rfl rfl rfl rfl (by rw [cells_length fI_len]; have hlt := (show m - 1 - j < (List.replicate (m - j) 0 ++ (goneC m es j).reverse).length from (by first | omega | (rw [l26_len]; omega) | (rw [List.length_set, l26_len]; omega) | (rw [l29_len]; omega))); simp only [List.length_cons, List.length_nil]; omega) (by simp) (cells_splice fI_len (show m - 1 - j < (List.replicate (m - j) 0 ++ (goneC m es j).reverse).length from (by first | omega | (rw [l26_len]; omega) | (rw [List.length_set, l26_len]; omega) | (rw [l29_len]; omega))) ((leftC m (goneC m es j)).getD jq 0))) (kn0 ?_)
                refine gk (.cons (.tail (.tail .head)) (.cons (.tail (.tail .head)) (.cons (.tail (.tail .head)) (.cons (.tail (.tail .head)) (.cons (.tail (.tail .head)) (.cons (.tail (.tail .head)) (.cons (.tail (.tail .head)) (.cons (.tail (.tail .head)) (.cons (.tail (.tail .head)) (.cons (.tail (.tail .head)) (.cons (.tail (.tail .head)) (.nil)))))))))))) ?_
                refine wg_done (by kernel_rfl) ?_
                refine cei_then ?_
                refine cwi_seq ?_
                refine cwi_seq ?_
                refine cwi_region (fun _ _ h => h) rfl ?_
                refine wl_v (ov_move rfl) rfl rfl rfl ?_
                refine wl_if (ov_gtr rfl rfl) rfl rfl rfl (fun c59 => ?_) (fun c59 => ?_)
                ·
                  refine wl_nil ?_
                  refine cei_then ?_
                  refine cwi_true rfl ?_
                  refine cwi_region (fun _ _ h => h) rfl ?_
                  refine wl_v (ov_load tI22 (holds_blk (List.Mem.tail _ (List.Mem.tail _ (List.Mem.tail _ (List.Mem.tail _ (List.Mem.tail _ (List.Mem.tail _ (List.Mem.tail _ (List.Mem.tail _ (List.Mem.tail _ (List.Mem.tail _ (List.Mem.tail _ (List.Mem.head _))))))))))))) rfl rfl) rfl rfl rfl ?_
                  refine wl_v (ov_load tI3 (holds_blk (List.Mem.tail _ (List.Mem.tail _ (List.Mem.tail _ (List.Mem.tail _ (List.Mem.tail _ (List.Mem.tail _ (List.Mem.tail _ (List.Mem.head _))))))))) rfl rfl) rfl rfl rfl ?_
                  refine wl_v (ov_index (k := m - 1 - j) (c := m) sI22 tI5 rfl rfl (fun _ _ => hso26) (show m - 1 - j < m from (by first | omega | (rw [l26_len]; omega) | (rw [List.length_set, l26_len]; omega) | (rw [l29_len]; omega)))) rfl rfl rfl ?_
                  refine wl_r0 (or_store_row (vs := [.int .u8 (100)]) (cs' := cells fY (((List.replicate (m - j) 0 ++ (letsC m es j).reverse.map UInt8.toNat).set (m - 1 - j) 105).set (m - 1 - j) 100)) (.tail .head) tI5 rfl rfl rfl rfl (by rw [cells_length fY_len]; have hlt := (show m - 1 - j < ((List.replicate (m - j) 0 ++ (letsC m es j).reverse.map UInt8.toNat).set (m - 1 - j) 105).length from (by first | omega | (rw [l26_len]; omega) | (rw [List.length_set, l26_len]; omega) | (rw [l29_len]; omega))); simp only [List.length_cons, List.length_nil]; omega) (by simp) (cells_splice fY_len (show m - 1 - j < ((List.replicate (m - j) 0 ++ (letsC m es j).reverse.map UInt8.toNat).set (m - 1 - j) 105).length from (by first | omega | (rw [l26_len]; omega) | (rw [List.length_set, l26_len]; omega) | (rw [l29_len]; omega))) 100)) rfl rfl (kn0 ?_)
                  refine wl_nil ?_
                  refine cei_then ?_
                  refine cwi_seq ?_
                  refine cwi_region (fun _ _ h => h) rfl ?_
                  refine wl_v (ov_load tI38 (holds_blk (List.Mem.tail _ (List.Mem.tail _ (List.Mem.tail _ (List.Mem.tail _ (List.Mem.tail _ (List.Mem.tail _ (List.Mem.tail _ (List.Mem.tail _ (List.Mem.head _)))))))))) rfl rfl) rfl rfl rfl ?_
                  refine wl_r (or_call (fv := []) (vs := [.slice A5 ((leftC m (goneC m es j)).length) (k5)]) (cs := []) en73 rfl rfl (call_x2 (fun w hw => clone_c w A5 ((leftC m (goneC m es j)).length) k5 (leftC m (goneC m es j)) ((holds_row (List.Mem.tail _ (List.Mem.tail _ (List.Mem.tail _ (List.Mem.tail _ (List.Mem.tail _ (List.Mem.tail _ (List.Mem.tail _ (List.Mem.tail _ (List.Mem.tail _ (List.Mem.head _))))))))))) w hw) rfl hq3 (by first | assumption | omega | (simp; omega))))) rfl rfl (kt2p rfl (fun A2_64 c2_64 h_64 => ?_))
                  refine wl_v (ov_makeFunc (vs := #[elp (some ⟨g11, 0, none⟩) (0)]) rfl) rfl rfl rfl ?_
                  refine wl_r (or_call (fv := []) (vs := [.slice A2_64 (((leftC m (goneC m es j)).length)) (c2_64), .func (.func 74) #[] #[elp (some ⟨g11, 0, none⟩) (0)]]) (cs := []) en72 rfl rfl (call_m (.head) (fun w hw => deleteFuncI_c w _ _ _ A2_64 ((leftC m (goneC m es j)).length) c2_64 c2_64 (leftC m (goneC m es j)) 74 ([elp (some ⟨g11, 0, none⟩) (0)]) (fun u => decide (u = ((leftC m (goneC m es j)).getD jq 0))) rfl h_64 (by first | assumption | omega | (simp; omega)) en74 (fun x hx ys' w' hw' => code2_c w' x g11 ((leftC m (goneC m es j)).getD jq 0) ((holds_blk (List.Mem.tail _ (List.Mem.tail _ (List.Mem.tail _ (List.Mem.tail _ (List.Mem.head _)))))) w' hw')) hw))) rfl rfl (kt0 rfl ?_)
                  refine wl_r0 (or_store_blk (vs := [.slice A2_64 (((leftC m (goneC m es j)).filter (fun x => !(fun u => decide (u = ((leftC m (goneC m es j)).getD jq 0))) x)).length) (c2_64)]) (cs' := [.slice A2_64 (((leftC m (goneC m es j)).filter (fun x => !(fun u => decide (u = ((leftC m (goneC m es j)).getD jq 0))) x)).length) (c2_64)]) (.tail (.tail (.tail (.tail (.tail (.tail (.tail (.tail (.tail .head))))))))) tI38 rfl rfl rfl rfl (Nat.le_of_ble_eq_true rfl) rfl) rfl rfl (kn0 ?_)
                  refine wl_nil ?_
                  refine cei_then ?_
                  refine cwi_seq ?_
                  refine cwi_region (fun _ _ h => h) rfl ?_
                  refine wl_r0 (or_store_blk (vs := [.bool true]) (cs' := [.bool true]) (.tail (.tail (.tail (.tail (.tail (.tail (.tail (.tail .head)))))))) tI4 rfl rfl rfl rfl (Nat.le_of_ble_eq_true rfl) rfl) rfl rfl (kn0 ?_)
                  refine wl_nil ?_
                  refine cei_then ?_
                  refine cwi_exit ?_
                  refine ce_miss rfl ?_
                  exact ce_broke (A2_64, c2_64, c2_64) ⟨.inr (Decidable.not_not.1 c49), (Nat.le_trans (List.length_filter_le (fun x => !(fun u => decide (u = ((leftC m (goneC m es j)).getD jq 0))) x) (leftC m (goneC m es j))) h_64)⟩ (.cons (.tail (.tail (.tail (.tail (.tail .head))))) (.cons (.tail (.tail (.tail (.tail (.tail (.tail .head)))))) (.cons (.head) (.cons (.tail (.tail (.tail (.tail (.tail (.tail .head)))))) (.cons (.head) (.cons (.head) (.cons (.tail (.tail (.tail (.tail (.tail .head))))) (.cons (.tail (.tail (.tail (.tail (.tail .head))))) (.cons (.tail (.tail (.tail (.tail (.tail .head))))) (.consE (show row 5 1 (some ⟨g26, 0, none⟩) (m) (m) (cells fY (((List.replicate (m - j) 0 ++ (letsC m es j).reverse.map UInt8.toNat).set (m - 1 - j) 105).set (m - 1 - j) 100)) = row 5 1 (some ⟨g26, 0, none⟩) (m) (m) (cells fY ((List.replicate (m - j) 0 ++ (letsC m es j).reverse.map UInt8.toNat).set (m - 1 - j) (if 0 < nbr es (leftC m (goneC m es j)) ((leftC m (goneC m es j)).getD jq 0) then 100 else 105))) by rw [if_pos (show 0 < nbr es (leftC m (goneC m es j)) ((leftC m (goneC m es j)).getD jq 0) from c59), List.set_set]) (.head) (.cons (.head) (.nil))))))))))))
                ·
                  refine wl_nil ?_
                  refine cei_then ?_
                  refine cwi_false rfl ?_
                  refine cwi_skip ?_
                  refine cei_then ?_
                  refine cwi_seq ?_
                  refine cwi_region (fun _ _ h => h) rfl ?_
                  refine wl_v (ov_load tI38 (holds_blk (List.Mem.tail _ (List.Mem.tail _ (List.Mem.tail _ (List.Mem.tail _ (List.Mem.tail _ (List.Mem.tail _ (List.Mem.tail _ (List.Mem.tail _ (List.Mem.head _)))))))))) rfl rfl) rfl rfl rfl ?_
                  refine wl_r (or_call (fv := []) (vs := [.slice A5 ((leftC m (goneC m es j)).length) (k5)]) (cs := []) en73 rfl rfl (call_x2 (fun w hw => clone_c w A5 ((leftC m (goneC m es j)).length) k5 (leftC m (goneC m es j)) ((holds_row (List.Mem.tail _ (List.Mem.tail _ (List.Mem.tail _ (List.Mem.tail _ (List.Mem.tail _ (List.Mem.tail _ (List.Mem.tail _ (List.Mem.tail _ (List.Mem.tail _ (List.Mem.head _))))))))))) w hw) rfl hq3 (by first | assumption | omega | (simp; omega))))) rfl rfl (kt2p rfl (fun A2_64 c2_64 h_64 => ?_))
                  refine wl_v (ov_makeFunc (vs := #[elp (some ⟨g11, 0, none⟩) (0)]) rfl) rfl rfl rfl ?_
                  refine wl_r (or_call (fv := []) (vs := [.slice A2_64 (((leftC m (goneC m es j)).length)) (c2_64), .func (.func 74) #[] #[elp (some ⟨g11, 0, none⟩) (0)]]) (cs := []) en72 rfl rfl (call_m (.head) (fun w hw => deleteFuncI_c w _ _ _ A2_64 ((leftC m (goneC m es j)).length) c2_64 c2_64 (leftC m (goneC m es j)) 74 ([elp (some ⟨g11, 0, none⟩) (0)]) (fun u => decide (u = ((leftC m (goneC m es j)).getD jq 0))) rfl h_64 (by first | assumption | omega | (simp; omega)) en74 (fun x hx ys' w' hw' => code2_c w' x g11 ((leftC m (goneC m es j)).getD jq 0) ((holds_blk (List.Mem.tail _ (List.Mem.tail _ (List.Mem.tail _ (List.Mem.tail _ (List.Mem.head _)))))) w' hw')) hw))) rfl rfl (kt0 rfl ?_)
                  refine wl_r0 (or_store_blk (vs := [.slice A2_64 (((leftC m (goneC m es j)).filter (fun x => !(fun u => decide (u = ((leftC m (goneC m es j)).getD jq 0))) x)).length) (c2_64)]) (cs' := [.slice A2_64 (((leftC m (goneC m es j)).filter (fun x => !(fun u => decide (u = ((leftC m (goneC m es j)).getD jq 0))) x)).length) (c2_64)]) (.tail (.tail (.tail (.tail (.tail (.tail (.tail (.tail (.tail .head))))))))) tI38 rfl rfl rfl rfl (Nat.le_of_ble_eq_true rfl) rfl) rfl rfl (kn0 ?_)
                  refine wl_nil ?_
                  refine cei_then ?_
                  refine cwi_seq ?_
                  refine cwi_region (fun _ _ h => h) rfl ?_
                  refine wl_r0 (or_store_blk (vs := [.bool true]) (cs' := [.bool true]) (.tail (.tail (.tail (.tail (.tail (.tail (.tail (.tail .head)))))))) tI4 rfl rfl rfl rfl (Nat.le_of_ble_eq_true rfl) rfl) rfl rfl (kn0 ?_)
                  refine wl_nil ?_
                  refine cei_then ?_
                  refine cwi_exit ?_
                  refine ce_miss rfl ?_
                  exact ce_broke (A2_64, c2_64, c2_64) ⟨.inr (Decidable.not_not.1 c49), (Nat.le_trans (List.length_filter_le (fun x => !(fun u => decide (u = ((leftC m (goneC m es j)).getD jq 0))) x) (leftC m (goneC m es j))) h_64)⟩ (.cons (.tail (.tail (.tail (.tail (.tail .head))))) (.cons (.tail (.tail (.tail (.tail (.tail (.tail .head)))))) (.cons (.head) (.cons (.tail (.tail (.tail (.tail (.tail (.tail .head)))))) (.cons (.head) (.cons (.head) (.cons (.tail (.tail (.tail (.tail (.tail .head))))) (.cons (.tail (.tail (.tail (.tail (.tail .head))))) (.cons (.tail (.tail (.tail (.tail (.tail .head))))) (.consE (show row 5 1 (some ⟨g26, 0, none⟩) (m) (m) (cells fY ((List.replicate (m - j) 0 ++ (letsC m es j).reverse.map UInt8.toNat).set (m - 1 - j) 105)) = row 5 1 (some ⟨g26, 0, none⟩) (m) (m) (cells fY ((List.replicate (m - j) 0 ++ (letsC m es j).reverse.map UInt8.toNat).set (m - 1 - j) (if 0 < nbr es (leftC m (goneC m es j)) ((leftC m (goneC m es j)).getD jq 0) then 100 else 105))) by rw [if_neg (show ¬ 0 < nbr es (leftC m (goneC m es j)) ((leftC m (goneC m es j)).getD jq 0) from c59)]) (.tail .head) (.cons (.head) (.nil))))))))))))
            ·
              refine wl_v (ov_move rfl) rfl rfl rfl ?_
              refine wl_not rfl rfl rfl rfl rfl rfl ?_
              refine wl_not rfl rfl rfl rfl rfl rfl ?_
              refine wl_not rfl rfl rfl rfl rfl rfl ?_
              refine wl_v (ov_pick_f rfl rfl) rfl rfl rfl ?_
              refine wl_nil ?_
              refine cei_then ?_
              refine cwi_false rfl ?_
              refine cwi_skip ?_
              refine cei_then ?_
              refine cwi_seq ?_
              refine cwi_draw rfl mixO [] (.cons (.head) (.cons (.head) (.cons (.head) (.cons (.head) (.cons (.head) (.cons (.head) (.cons (.head) (.cons (.head) (.cons (.head) (.cons (.head) (.cons (.head) (.nil)))))))))))) rfl ?_
              refine wg_take (i := 0) rfl (ov_load tI22 (holds_blk (List.Mem.tail _ (List.Mem.tail _ (List.Mem.tail _ (List.Mem.tail _ (List.Mem.tail _ (List.Mem.tail _ (List.Mem.tail _ (List.Mem.tail _ (List.Mem.tail _ (List.Mem.head _))))))))))) rfl rfl) rfl rfl rfl (by kernel_rfl) (by kernel_rfl) (by kernel_rfl) (by kernel_rfl) ?_
              refine wg_take (i := 1) rfl (ov_load tI3 (holds_blk (List.Mem.tail _ (List.Mem.tail _ (List.Mem.tail _ (List.Mem.tail _ (List.Mem.tail _ (List.Mem.head _))))))) rfl rfl) rfl rfl rfl (by kernel_rfl) (by kernel_rfl) (by kernel_rfl) (by kernel_rfl) ?_
              refine wg_take (i := 2) rfl (ov_load tI38 (holds_blk (List.Mem.tail _ (List.Mem.tail _ (List.Mem.tail _ (List.Mem.tail _ (List.Mem.tail _ (List.Mem.tail _ (List.Mem.tail _ (List.Mem.tail _ (List.Mem.tail _ (List.Mem.tail _ (List.Mem.head _)))))))))))) rfl rfl) rfl rfl rfl (by kernel_rfl) (by kernel_rfl) (by kernel_rfl) (by kernel_rfl) ?_
              refine wg_take (i := 3) rfl (ov_load tI3 (holds_blk (List.Mem.tail _ (List.Mem.tail _ (List.Mem.tail _ (List.Mem.tail _ (List.Mem.tail _ (List.Mem.head _))))))) rfl rfl) rfl rfl rfl (by kernel_rfl) (by kernel_rfl) (by kernel_rfl) (by kernel_rfl) ?_
              refine wg_take (i := 4) rfl (ov_load tI3 (holds_blk (List.Mem.tail _ (List.Mem.head _))) rfl rfl) rfl rfl rfl (by kernel_rfl) (by kernel_rfl) (by kernel_rfl) (by kernel_rfl) ?_
              refine wg_take (i := 5) rfl (ov_index (k := m - 1 - j) (c := m) sI22 tI5 rfl rfl (fun _ _ => hso26) (show m - 1 - j < m from (by first | omega | (rw [l26_len]; omega) | (rw [List.length_set, l26_len]; omega) | (rw [l29_len]; omega)))) rfl rfl rfl (by kernel_rfl) (by kernel_rfl) (by kernel_rfl) (by kernel_rfl) ?_
              refine wg_one (i := 6) (by kernel_rfl) ?_
              refine go_r0 rfl rfl rfl rfl (or_store_row (vs := [.int .u8 (105)]) (cs' := cells fY ((List.replicate (m - j) 0 ++ (letsC m es j).reverse.map UInt8.toNat).set (m - 1 - j) 105)) (.tail (.tail (.tail (.tail (.tail (.tail (.tail (.tail (.tail (.tail (.tail .head))))))))))) tI5 rfl rfl rfl rfl (by rw [cells_length fY_len]; have hlt := (show m - 1 - j < (List.replicate (m - j) 0 ++ (letsC m es j).reverse.map UInt8.toNat).length from (by first | omega | (rw [l26_len]; omega) | (rw [List.length_set, l26_len]; omega) | (rw [l29_len]; omega))); simp only [List.length_cons, List.length_nil]; omega) (by simp) (cells_splice fY_len (show m - 1 - j < (List.replicate (m - j) 0 ++ (letsC m es j).reverse.map UInt8.toNat).length from (by first | omega | (rw [l26_len]; omega) | (rw [List.length_set, l26_len]; omega) | (rw [l29_len]; omega))) 105)) (kn0 ?_)
              refine gk (.cons (.tail .head) (.cons (.tail .head) (.cons (.tail .head) (.cons (.tail .head) (.cons (.tail .head) (.cons (.tail .head) (.cons (.tail .head) (.cons (.tail .head) (.cons (.tail .head) (.cons (.tail .head) (.cons (.tail .head) (.nil)))))))))))) ?_
              refine wg_take (i := 7) rfl (ov_index (k := m - 1 - j) (c := m) sI38 tI3 rfl rfl (fun _ _ => hso29) (show m - 1 - j < m from (by first | omega | (rw [l26_len]; omega) | (rw [List.length_set, l26_len]; omega) | (rw [l29_len]; omega)))) rfl rfl rfl (by kernel_rfl) (by kernel_rfl) (by kernel_rfl) (by kernel_rfl) ?_
              refine wg_one (i := 8) (by kernel_rfl) ?_
              refine go_r0 rfl rfl rfl rfl (or_store_row (vs := [.int .i64 (((leftC m (goneC m es j)).getD jq 0))]) (cs' := cells fI ((List.replicate (m - j) 0 ++ (goneC m es j).reverse).set (m - 1 - j) ((leftC m (goneC m es j)).getD jq 0))) (.tail (.tail (.tail (.tail (.tail (.tail (.tail (.tail (.tail (.tail (.tail (.tail .head)))))))))))) tI3 rfl rfl rfl rfl (by rw [cells_length fI_len]; have hlt := (show m - 1 - j < (List.replicate (m - j) 0 ++ (goneC m es j).reverse).length from (by first | omega | (rw [l26_len]; omega) | (rw [List.length_set, l26_len]; omega) | (rw [l29_len]; omega))); simp only [List.length_cons, List.length_nil]; omega) (by simp) (cells_splice fI_len (show m - 1 - j < (List.replicate (m - j) 0 ++ (goneC m es j).reverse).length from (by first | omega | (rw [l26_len]; omega) | (rw [List.length_set, l26_len]; omega) | (rw [l29_len]; omega))) ((leftC m (goneC m es j)).getD jq 0))) (kn0 ?_)
              refine gk (.cons (.tail (.tail .head)) (.cons (.tail (.tail .head)) (.cons (.tail (.tail .head)) (.cons (.tail (.tail .head)) (.cons (.tail (.tail .head)) (.cons (.tail (.tail .head)) (.cons (.tail (.tail .head)) (.cons (.tail (.tail .head)) (.cons (.tail (.tail .head)) (.cons (.tail (.tail .head)) (.cons (.tail (.tail .head)) (.nil)))))))))))) ?_
              refine wg_done (by kernel_rfl) ?_
              refine cei_then ?_
              refine cwi_seq ?_
              refine cwi_seq ?_
              refine cwi_region (fun _ _ h => h) rfl ?_
              refine wl_v (ov_move rfl) rfl rfl rfl ?_
              refine wl_if (ov_gtr rfl rfl) rfl rfl rfl (fun c59 => ?_) (fun c59 => ?_)
              ·
                refine wl_nil ?_
                refine cei_then ?_
                refine cwi_true rfl ?_
                refine cwi_region (fun _ _ h => h) rfl ?_
                refine wl_v (ov_load tI22 (holds_blk (List.Mem.tail _ (List.Mem.tail _ (List.Mem.tail _ (List.Mem.tail _ (List.Mem.tail _ (List.Mem.tail _ (List.Mem.tail _ (List.Mem.tail _ (List.Mem.tail _ (List.Mem.tail _ (List.Mem.tail _ (List.Mem.head _))))))))))))) rfl rfl) rfl rfl rfl ?_
                refine wl_v (ov_load tI3 (holds_blk (List.Mem.tail _ (List.Mem.tail _ (List.Mem.tail _ (List.Mem.tail _ (List.Mem.tail _ (List.Mem.tail _ (List.Mem.tail _ (List.Mem.head _))))))))) rfl rfl) rfl rfl rfl ?_
                refine wl_v (ov_index (k := m - 1 - j) (c := m) sI22 tI5 rfl rfl (fun _ _ => hso26) (show m - 1 - j < m from (by first | omega | (rw [l26_len]; omega) | (rw [List.length_set, l26_len]; omega) | (rw [l29_len]; omega)))) rfl rfl rfl ?_
                refine wl_r0 (or_store_row (vs := [.int .u8 (100)]) (cs' := cells fY (((List.replicate (m - j) 0 ++ (letsC m es j).reverse.map UInt8.toNat).set (m - 1 - j) 105).set (m - 1 - j) 100)) (.tail .head) tI5 rfl rfl rfl rfl (by rw [cells_length fY_len]; have hlt := (show m - 1 - j < ((List.replicate (m - j) 0 ++ (letsC m es j).reverse.map UInt8.toNat).set (m - 1 - j) 105).length from (by first | omega | (rw [l26_len]; omega) | (rw [List.length_set, l26_len]; omega) | (rw [l29_len]; omega))); simp only [List.length_cons, List.length_nil]; omega) (by simp) (cells_splice fY_len (show m - 1 - j < ((List.replicate (m - j) 0 ++ (letsC m es j).reverse.map UInt8.toNat).set (m - 1 - j) 105).length from (by first | omega | (rw [l26_len]; omega) | (rw [List.length_set, l26_len]; omega) | (rw [l29_len]; omega))) 100)) rfl rfl (kn0 ?_)
                refine wl_nil ?_
                refine cei_then ?_
                refine cwi_seq ?_
                refine cwi_region (fun _ _ h => h) rfl ?_
                refine wl_v (ov_load tI38 (holds_blk (List.Mem.tail _ (List.Mem.tail _ (List.Mem.tail _ (List.Mem.tail _ (List.Mem.tail _ (List.Mem.tail _ (List.Mem.tail _ (List.Mem.tail _ (List.Mem.head _)))))))))) rfl rfl) rfl rfl rfl ?_
                refine wl_r (or_call (fv := []) (vs := [.slice A5 ((leftC m (goneC m es j)).length) (k5)]) (cs := []) en73 rfl rfl (call_x2 (fun w hw => clone_c w A5 ((leftC m (goneC m es j)).length) k5 (leftC m (goneC m es j)) ((holds_row (List.Mem.tail _ (List.Mem.tail _ (List.Mem.tail _ (List.Mem.tail _ (List.Mem.tail _ (List.Mem.tail _ (List.Mem.tail _ (List.Mem.tail _ (List.Mem.tail _ (List.Mem.head _))))))))))) w hw) rfl hq3 (by first | assumption | omega | (simp; omega))))) rfl rfl (kt2p rfl (fun A2_64 c2_64 h_64 => ?_))
                refine wl_v (ov_makeFunc (vs := #[elp (some ⟨g11, 0, none⟩) (0)]) rfl) rfl rfl rfl ?_
                refine wl_r (or_call (fv := []) (vs := [.slice A2_64 (((leftC m (goneC m es j)).length)) (c2_64), .func (.func 74) #[] #[elp (some ⟨g11, 0, none⟩) (0)]]) (cs := []) en72 rfl rfl (call_m (.head) (fun w hw => deleteFuncI_c w _ _ _ A2_64 ((leftC m (goneC m es j)).length) c2_64 c2_64 (leftC m (goneC m es j)) 74 ([elp (some ⟨g11, 0, none⟩) (0)]) (fun u => decide (u = ((leftC m (goneC m es j)).getD jq 0))) rfl h_64 (by first | assumption | omega | (simp; omega)) en74 (fun x hx ys' w' hw' => code2_c w' x g11 ((leftC m (goneC m es j)).getD jq 0) ((holds_blk (List.Mem.tail _ (List.Mem.tail _ (List.Mem.tail _ (List.Mem.tail _ (List.Mem.head _)))))) w' hw')) hw))) rfl rfl (kt0 rfl ?_)
                refine wl_r0 (or_store_blk (vs := [.slice A2_64 (((leftC m (goneC m es j)).filter (fun x => !(fun u => decide (u = ((leftC m (goneC m es j)).getD jq 0))) x)).length) (c2_64)]) (cs' := [.slice A2_64 (((leftC m (goneC m es j)).filter (fun x => !(fun u => decide (u = ((leftC m (goneC m es j)).getD jq 0))) x)).length) (c2_64)]) (.tail (.tail (.tail (.tail (.tail (.tail (.tail (.tail (.tail .head))))))))) tI38 rfl rfl rfl rfl (Nat.le_of_ble_eq_true rfl) rfl) rfl rfl (kn0 ?_)
                refine wl_nil ?_
                refine cei_then ?_
                refine cwi_seq ?_
                refine cwi_region (fun _ _ h => h) rfl ?_
                refine wl_r0 (or_store_blk (vs := [.bool true]) (cs' := [.bool true]) (.tail (.tail (.tail (.tail (.tail (.tail (.tail (.tail .head)))))))) tI4 rfl rfl rfl rfl (Nat.le_of_ble_eq_true rfl) rfl) rfl rfl (kn0 ?_)
                refine wl_nil ?_
                refine cei_then ?_
                refine cwi_exit ?_
                refine ce_miss rfl ?_
                exact ce_broke (A2_64, c2_64, c2_64) ⟨.inl (Decidable.not_not.1 c45), (Nat.le_trans (List.length_filter_le (fun x => !(fun u => decide (u = ((leftC m (goneC m es j)).getD jq 0))) x) (leftC m (goneC m es j))) h_64)⟩ (.cons (.tail (.tail (.tail (.tail (.tail .head))))) (.cons (.tail (.tail (.tail (.tail (.tail (.tail .head)))))) (.cons (.head) (.cons (.tail (.tail (.tail (.tail (.tail (.tail .head)))))) (.cons (.head) (.cons (.head) (.cons (.tail (.tail (.tail (.tail (.tail .head))))) (.cons (.tail (.tail (.tail (.tail (.tail .head))))) (.cons (.tail (.tail (.tail (.tail (.tail .head))))) (.consE (show row 5 1 (some ⟨g26, 0, none⟩) (m) (m) (cells fY (((List.replicate (m - j) 0 ++ (letsC m es j).reverse.map UInt8.toNat).set (m - 1 - j) 105).set (m - 1 - j) 100)) = row 5 1 (some ⟨g26, 0, none⟩) (m) (m) (cells fY ((List.replicate (m - j) 0 ++ (letsC m es j).reverse.map UInt8.toNat).set (m - 1 - j) (if 0 < nbr es (leftC m (goneC m es j)) ((leftC m (goneC m es j)).getD jq 0) then 100 else 105))) by rw [if_pos (show 0 < nbr es (leftC m (goneC m es j)) ((leftC m (goneC m es j)).getD jq 0) from c59), List.set_set]) (.head) (.cons (.head) (.nil))))))))))))
              ·
                refine wl_nil ?_
                refine cei_then ?_
                refine cwi_false rfl ?_
                refine cwi_skip ?_
                refine cei_then ?_
                refine cwi_seq ?_
                refine cwi_region (fun _ _ h => h) rfl ?_
                refine wl_v (ov_load tI38 (holds_blk (List.Mem.tail _ (List.Mem.tail _ (List.Mem.tail _ (List.Mem.tail _ (List.Mem.tail _ (List.Mem.tail _ (List.Mem.tail _ (List.Mem.tail _ (List.Mem.head _)))))))))) rfl rfl) rfl rfl rfl ?_
                refine wl_r (or_call (fv := []) (vs := [.slice A5 ((leftC m (goneC m es j)).length) (k5)]) (cs := []) en73 rfl rfl (call_x2 (fun w hw => clone_c w A5 ((leftC m (goneC m es j)).length) k5 (leftC m (goneC m es j)) ((holds_row (List.Mem.tail _ (List.Mem.tail _ (List.Mem.tail _ (List.Mem.tail _ (List.Mem.tail _ (List.Mem.tail _ (List.Mem.tail _ (List.Mem.tail _ (List.Mem.tail _ (List.Mem.head _))))))))))) w hw) rfl hq3 (by first | assumption | omega | (simp; omega))))) rfl rfl (kt2p rfl (fun A2_64 c2_64 h_64 => ?_))
                refine wl_v (ov_makeFunc (vs := #[elp (some ⟨g11, 0, none⟩) (0)]) rfl) rfl rfl rfl ?_
                refine wl_r (or_call (fv := []) (vs := [.slice A2_64 (((leftC m (goneC m es j)).length)) (c2_64), .func (.func 74) #[] #[elp (some ⟨g11, 0, none⟩) (0)]]) (cs := []) en72 rfl rfl (call_m (.head) (fun w hw => deleteFuncI_c w _ _ _ A2_64 ((leftC m (goneC m es j)).length) c2_64 c2_64 (leftC m (goneC m es j)) 74 ([elp (some ⟨g11, 0, none⟩) (0)]) (fun u => decide (u = ((leftC m (goneC m es j)).getD jq 0))) rfl h_64 (by first | assumption | omega | (simp; omega)) en74 (fun x hx ys' w' hw' => code2_c w' x g11 ((leftC m (goneC m es j)).getD jq 0) ((holds_blk (List.Mem.tail _ (List.Mem.tail _ (List.Mem.tail _ (List.Mem.tail _ (List.Mem.head _)))))) w' hw')) hw))) rfl rfl (kt0 rfl ?_)
                refine wl_r0 (or_store_blk (vs := [.slice A2_64 (((leftC m (goneC m es j)).filter (fun x => !(fun u => decide (u = ((leftC m (goneC m es j)).getD jq 0))) x)).length) (c2_64)]) (cs' := [.slice A2_64 (((leftC m (goneC m es j)).filter (fun x => !(fun u => decide (u = ((leftC m (goneC m es j)).getD jq 0))) x)).length) (c2_64)]) (.tail (.tail (.tail (.tail (.tail (.tail (.tail (.tail (.tail .head))))))))) tI38 rfl rfl rfl rfl (Nat.le_of_ble_eq_true rfl) rfl) rfl rfl (kn0 ?_)
                refine wl_nil ?_
                refine cei_then ?_
                refine cwi_seq ?_
                refine cwi_region (fun _ _ h => h) rfl ?_
                refine wl_r0 (or_store_blk (vs := [.bool true]) (cs' := [.bool true]) (.tail (.tail (.tail (.tail (.tail (.tail (.tail (.tail .head)))))))) tI4 rfl rfl rfl rfl (Nat.le_of_ble_eq_true rfl) rfl) rfl rfl (kn0 ?_)
                refine wl_nil ?_
                refine cei_then ?_
                refine cwi_exit ?_
                refine ce_miss rfl ?_
                exact ce_broke (A2_64, c2_64, c2_64) ⟨.inl (Decidable.not_not.1 c45), (Nat.le_trans (List.length_filter_le (fun x => !(fun u => decide (u = ((leftC m (goneC m es j)).getD jq 0))) x) (leftC m (goneC m es j))) h_64)⟩ (.cons (.tail (.tail (.tail (.tail (.tail .head))))) (.cons (.tail (.tail (.tail (.tail (.tail (.tail .head)))))) (.cons (.head) (.cons (.tail (.tail (.tail (.tail (.tail (.tail .head)))))) (.cons (.head) (.cons (.head) (.cons (.tail (.tail (.tail (.tail (.tail .head))))) (.cons (.tail (.tail (.tail (.tail (.tail .head))))) (.cons (.tail (.tail (.tail (.tail (.tail .head))))) (.consE (show row 5 1 (some ⟨g26, 0, none⟩) (m) (m) (cells fY ((List.replicate (m - j) 0 ++ (letsC m es j).reverse.map UInt8.toNat).set (m - 1 - j) 105)) = row 5 1 (some ⟨g26, 0, none⟩) (m) (m) (cells fY ((List.replicate (m - j) 0 ++ (letsC m es j).reverse.map UInt8.toNat).set (m - 1 - j) (if 0 < nbr es (leftC m (goneC m es j)) ((leftC m (goneC m es j)).getD jq 0) then 100 else 105))) by rw [if_neg (show ¬ 0 < nbr es (leftC m (goneC m es j)) ((leftC m (goneC m es j)).getD jq 0) from c59)]) (.tail .head) (.cons (.head) (.nil))))))))))))
          ·
            have hpk := impl_none hj (fun q h2 => hall q h2)
            refine ce_block ?_
            refine ce_then ?_
            refine cw_seq ?_
            refine cw_region ?_
            refine wl_v (ov_load tI4 (holds_blk (List.Mem.tail _ (List.Mem.tail _ (List.Mem.head _)))) rfl rfl) rfl rfl rfl ?_
            refine wl_v (ov_not rfl) rfl rfl rfl ?_
            refine wl_nil ?_
            refine ce_then ?_
            refine cw_true rfl ?_
            refine cw_seq ?_
            have hv : codeC ((m : Nat) : Int) es = (bstr [], [], false) := (codeC_M ⟨c14, c19⟩).trans (codeM_fail hj (by rw [hpk]; omega))
            refine ct_none fI 3 1 ?_
            refine cw_region ?_
            refine wl_v (ov_assign rfl) rfl rfl rfl ?_
            refine wl_v (ov_assign rfl) rfl rfl rfl ?_
            refine wl_v (ov_assign rfl) rfl rfl rfl ?_
            refine wl_nil ?_
            refine ce_then ?_
            refine cw_ret ?_
            refine ce_block_ret ?_
            refine ce_then_ret ?_
            refine ce_then_ret ?_
            refine ce_block_ret ?_
            refine ce_then_ret ?_
            refine ce_resultsM (rs := (dq :: rs)) (.tail .head) (v := .tuple #[.string (bstr []), .slice none (0) (0), .bool false]) (res3 rfl (rv_t rfl) (rv_t rfl) (rv_t rfl)) (fun w' hw => ?_)
            exact ⟨none, 0, 0, (by rw [hv]; exact Nat.le_refl _), (by rw [hv] <;> rfl), ((.consE (show row 3 1 none (0) (0) (cells fI ([])) = row 3 1 none ((codeC ((m : Nat) : Int) es).2.1.length) (0) (cells fI ((codeC ((m : Nat) : Int) es).2.1)) by rw [hv] <;> rfl) (.head) (.nil) : Keep _ _).ss hw).to_new⟩
          ·
            have hpk := impl_pick hj hjq hyq.1 (fun q h1 h2 => hlater q h1 h2)
            have hv0 : 0 ≤ vC m es j := by rw [hpk]; exact (left_get hjq).1
            refine ce_hit ?_
            refine ce_then ?_
            refine cw_seq ?_
            refine cw_region ?_
            refine wl_v (ov_load tI4 (holds_blk (List.Mem.tail _ (List.Mem.head _))) rfl rfl) rfl rfl rfl ?_
            refine wl_v (ov_not rfl) rfl rfl rfl ?_
            refine wl_nil ?_
            refine ce_then ?_
            refine cw_false rfl ?_
            refine cw_skip ?_
            refine ce_block ?_
            refine ce_then ?_
            refine cw_seq ?_
            refine cw_seq ?_
            refine cw_region ?_
            refine wl_v (ov_load tI3 (holds_blk (List.Mem.tail _ (List.Mem.tail _ (List.Mem.head _)))) rfl rfl) rfl rfl rfl ?_
            refine wl_nil ?_
            refine ce_then ?_
            refine cw_region ?_
            refine wl_r (or_alloc tI3 rfl) rfl rfl (kt1 rfl (fun g8x => ?_))
            refine wl_r0 (or_store_blk (vs := [.int .i64 (((m - 1 - j : Nat) : Int))]) (cs' := [.int .i64 (((m - 1 - j : Nat) : Int))]) (.head) tI3 rfl rfl rfl rfl (Nat.le_of_ble_eq_true rfl) rfl) rfl rfl (kn0 ?_)
            refine wl_nil ?_
            refine ce_then ?_
            refine cw_region ?_
            refine wl_v (ov_load tI3 (holds_blk (List.Mem.head _)) rfl rfl) rfl rfl rfl ?_
            refine wl_v (ov_sub (r := ((m - 1 - j : Nat) : Int) - 1) rfl rfl rfl (by omega)) rfl rfl rfl ?_
            refine wl_r0 (or_store_blk (vs := [.int .i64 (((m - 1 - j : Nat) : Int) - 1)]) (cs' := [.int .i64 (((m - 1 - j : Nat) : Int) - 1)]) (.head) tI3 rfl rfl rfl rfl (Nat.le_of_ble_eq_true rfl) rfl) rfl rfl (kn0 ?_)
            refine wl_nil ?_
            exact fun ac_ w_ hs_ => hR0 (j + 1) (dq :: rs) g8x yq.1 yq.2.1 yq.2.2 ⟨by omega, hq2.succ hv0, by rw [leftC_succ, hpk]; exact hyq.2⟩ (by omega) ac_ w_ (hs_.weaken (.cons rfl (.cons rfl (.cons rfl (.cons rfl (.cons rfl (.nil)))))) (.consE (show blk g8x [.int .i64 (((m - 1 - j : Nat) : Int) - 1)] 3 = blk g8x [.int .i64 (((m : Nat) : Int) - 1 - (((j + 1) : Nat) : Int))] 3 by rw [show ((m : Nat) : Int) - 1 - (((j + 1) : Nat) : Int) = (((m - 1 - j : Nat) : Nat) : Int) - 1 from by omega]) (.head) (.consE (show blk g5 [.slice yq.1 (((leftC m (goneC m es j)).filter (fun u => !decide (u = ((leftC m (goneC m es j)).getD jq 0)))).length) (yq.2.1)] 38 = blk g5 [.slice yq.1 ((leftC m (goneC m es (j + 1))).length) (yq.2.1)] 38 by rw [leftC_succ, hpk]) (.tail (.tail (.tail .head))) (.consE (show row 3 1 yq.1 (((leftC m (goneC m es j)).filter (fun u => !decide (u = ((leftC m (goneC m es j)).getD jq 0)))).length) (yq.2.2) (cells fI ((leftC m (goneC m es j)).filter (fun u => !decide (u = ((leftC m (goneC m es j)).getD jq 0))))) = row 3 1 yq.1 ((leftC m (goneC m es (j + 1))).length) (yq.2.2) (cells fI (leftC m (goneC m es (j + 1)))) by rw [leftC_succ, hpk]) (.tail (.tail (.tail .head))) (.cons (.tail (.tail (.tail .head))) (.cons (.head) (.cons (.tail (.tail .head)) (.cons (.tail (.tail .head)) (.consE (show row 5 1 (some ⟨g26, 0, none⟩) (m) (m) (cells fY ((List.replicate (m - j) 0 ++ (letsC m es j).reverse.map UInt8.toNat).set (m - 1 - j) (if 0 < nbr es (leftC m (goneC m es j)) ((leftC m (goneC m es j)).getD jq 0) then 100 else 105))) = row 5 1 (some ⟨g26, 0, none⟩) (m) (m) (cells fY (List.replicate (m - (j + 1)) 0 ++ (letsC m es (j + 1)).reverse.map UInt8.toNat)) by rw [← hpk, lets_next hj]) (.tail (.tail .head)) (.consE (show row 3 1 (some ⟨g29, 0, none⟩) (m) (m) (cells fI ((List.replicate (m - j) 0 ++ (goneC m es j).reverse).set (m - 1 - j) ((leftC m (goneC m es j)).getD jq 0))) = row 3 1 (some ⟨g29, 0, none⟩) (m) (m) (cells fI (List.replicate (m - (j + 1)) 0 ++ (goneC m es (j + 1)).reverse)) by rw [← hpk, gone_next hj]) (.tail (.tail .head)) (.nil)))))))))))
        ·
          have hj : j = m := by omega
          have hok : OkTo m es m := by have h9 := hq2; rw [hj] at h9; exact h9
          have hv := (codeC_M ⟨c14, c19⟩).trans (codeM_yes hok)
          refine ct_keep (L' := [(1, elp (some ⟨g1, 0, none⟩) (0)), (5, elp (some ⟨g5, 0, none⟩) (0)), (6, elp (some ⟨g6, 0, none⟩) (0)), (7, elp (some ⟨g7, 0, none⟩) (0)), (8, elp (some ⟨g8, 0, none⟩) (0)), (33, .int .i64 (((m : Nat) : Int) - 1 - ((j : Nat) : Int))), (34, .bool false)]) (.cons rfl (.cons rfl (.cons rfl (.cons rfl (.cons rfl (.cons rfl (.cons rfl (.nil)))))))) (.cons (.head) (.cons (.head) (.cons (.head) (.cons (.head) (.cons (.head) (.cons (.head) (.cons (.head) (.consE (show row 5 1 (some ⟨g26, 0, none⟩) (m) (m) (cells fY (List.replicate (m - j) 0 ++ (letsC m es j).reverse.map UInt8.toNat)) = row 5 1 (some ⟨g26, 0, none⟩) (m) (m) (cells fY ((letsC m es m).reverse.map UInt8.toNat)) by rw [hj, Nat.sub_self]; rfl) (.head) (.cons (.head) (.nil)))))))))) ?_
          refine ct_keep (L' := [(1, elp (some ⟨g1, 0, none⟩) (0)), (5, elp (some ⟨g5, 0, none⟩) (0)), (6, elp (some ⟨g6, 0, none⟩) (0)), (7, elp (some ⟨g7, 0, none⟩) (0)), (8, elp (some ⟨g8, 0, none⟩) (0)), (33, .int .i64 (((m : Nat) : Int) - 1 - ((j : Nat) : Int))), (34, .bool false)]) (.cons rfl (.cons rfl (.cons rfl (.cons rfl (.cons rfl (.cons rfl (.cons rfl (.nil)))))))) (.cons (.head) (.cons (.head) (.cons (.head) (.cons (.head) (.cons (.head) (.cons (.head) (.cons (.head) (.cons (.head) (.consE (show row 3 1 (some ⟨g29, 0, none⟩) (m) (m) (cells fI (List.replicate (m - j) 0 ++ (goneC m es j).reverse)) = row 3 1 (some ⟨g29, 0, none⟩) (m) (m) (cells fI ((goneC m es m).reverse)) by rw [hj, Nat.sub_self]; rfl) (.head) (.nil)))))))))) ?_
          refine wl_nil ?_
          refine ce_then ?_
          refine cw_false rfl ?_
          refine cw_exit ?_
          refine ce_then_exit ?_
          refine ce_then_exit ?_
          refine ce_hit ?_
          refine ce_then ?_
          refine cw_seq ?_
          refine cw_draw mixO [] (.cons (.head) (.cons (.head) (.cons (.head) (.cons (.head) (.cons (.head) (.cons (.head) (.cons (.head) (.cons (.head) (.cons (.head) (.nil)))))))))) rfl ?_
          refine wg_take (i := 0) rfl (ov_load tI22 (holds_blk (List.Mem.tail _ (List.Mem.tail _ (List.Mem.tail _ (List.Mem.tail _ (List.Mem.tail _ (List.Mem.head _))))))) rfl rfl) rfl rfl rfl (by kernel_rfl) (by kernel_rfl) (by kernel_rfl) (by kernel_rfl) ?_
          refine wg_take (i := 1) rfl (ov_convb (l := (letsC m es m).reverse) sI22 uI5 uI9 (holds_row (List.Mem.tail _ (List.Mem.tail _ (List.Mem.tail _ (List.Mem.tail _ (List.Mem.tail _ (List.Mem.tail _ (List.Mem.tail _ (List.Mem.head _))))))))) ⟨by rw [List.length_reverse, letsC_length], hm0⟩ rfl) rfl rfl rfl (by kernel_rfl) (by kernel_rfl) (by kernel_rfl) (by kernel_rfl) ?_
          refine wg_take (i := 2) rfl (ov_load tI38 (holds_blk (List.Mem.tail _ (List.Mem.tail _ (List.Mem.tail _ (List.Mem.tail _ (List.Mem.tail _ (List.Mem.tail _ (List.Mem.head _)))))))) rfl rfl) rfl rfl rfl (by kernel_rfl) (by kernel_rfl) (by kernel_rfl) (by kernel_rfl) ?_
          refine wg_takep (i := 3) rfl (ov_assign rfl) rfl rfl rfl (by kernel_rfl) (by kernel_rfl) (by kernel_rfl) rfl ?_
          refine wg_takep (i := 4) rfl (ov_assign rfl) rfl rfl rfl (by kernel_rfl) (by kernel_rfl) (by kernel_rfl) rfl ?_
          refine wg_takep (i := 5) rfl (ov_assign rfl) rfl rfl rfl (by kernel_rfl) (by kernel_rfl) (by kernel_rfl) rfl ?_
          refine wg_done (by kernel_rfl) ?_
          refine ce_then ?_
          refine cw_ret ?_
          refine ce_resultsM (rs := rs) (.tail (.tail (.tail (.tail .head)))) (v := .tuple #[.string (bstr ((letsC m es m).reverse)), .slice (some ⟨g29, 0, none⟩) (m) (m), .bool true]) (res3 rfl (rv_t rfl) (rv_t rfl) (rv_t rfl)) (fun w' hw => ?_)
          exact ⟨some ⟨g29, 0, none⟩, m, m, (by rw [hv]; show ((goneC m es m).reverse).length ≤ m; rw [List.length_reverse, goneC_length]; exact Nat.le_refl _), (by rw [hv]; show _ = Value.tuple #[_, .slice _ ((goneC m es m).reverse).length _, _]; rw [List.length_reverse, goneC_length] <;> rfl), ((.consE (show row 3 1 (some ⟨g29, 0, none⟩) (m) (m) (cells fI ((goneC m es m).reverse)) = row 3 1 (some ⟨g29, 0, none⟩) ((codeC ((m : Nat) : Int) es).2.1.length) (m) (cells fI ((codeC ((m : Nat) : Int) es).2.1)) by rw [hv]; show _ = row 3 1 _ ((goneC m es m).reverse).length _ _; rw [List.length_reverse, goneC_length] <;> rfl) (.tail (.tail (.tail (.tail (.tail (.tail (.tail .head))))))) (.nil) : Keep _ _).ss hw).to_new⟩
  ·
    refine wl_v (ov_not rfl) rfl rfl rfl ?_
    refine wl_v (ov_move rfl) rfl rfl rfl ?_
    refine wl_not rfl rfl rfl rfl rfl rfl ?_
    refine wl_not rfl rfl rfl rfl rfl rfl ?_
    refine wl_not rfl rfl rfl rfl rfl rfl ?_
    refine wl_v (ov_pick_t rfl rfl) rfl rfl rfl ?_
    refine wl_nil ?_
    refine ce_then ?_
    refine cw_true rfl ?_
    refine cw_seq ?_
    have hv : codeC N es = (bstr [], [], false) := codeC_no (fun h => c14 h.1)
    refine ct_none fI 3 1 ?_
    refine cw_region ?_
    refine wl_v (ov_assign rfl) rfl rfl rfl ?_
    refine wl_v (ov_assign rfl) rfl rfl rfl ?_
    refine wl_v (ov_assign rfl) rfl rfl rfl ?_
    refine wl_nil ?_
    refine ce_then ?_
    refine cw_ret ?_
    refine ce_then_ret ?_
    refine ce_resultsM (rs := []) (.tail (.tail .head)) (v := .tuple #[.string (bstr []), .slice none (0) (0), .bool false]) (res3 rfl (rv_t rfl) (rv_t rfl) (rv_t rfl)) (fun w' hw => ?_)
    exact ⟨none, 0, 0, (by rw [hv]; exact Nat.le_refl _), (by rw [hv] <;> rfl), ((.consE (show row 3 1 none (0) (0) (cells fI ([])) = row 3 1 none ((codeC N es).2.1.length) (0) (cells fI ((codeC N es).2.1)) by rw [hv] <;> rfl) (.head) (.nil) : Keep _ _).ss hw).to_new⟩
end Go.Proofs.Ytkkllkkjdbpjpaa.W55
