/- Walks of functions of the given program: each returns what its Lean function says and leaves the memory that was there as it was. Conditions: those of each theorem. -/
import Derived.Test.YtkkllkkjdbpjpaaSm
import Derived.Test.YtkkllkkjdbpjpaaProg
import Derived.Test.YtkkllkkjdbpjpaaPl
import Derived.Test.YtkkllkkjdbpjpaaPo
import Derived.Test.YtkkllkkjdbpjpaaPd
import Derived.Test.YtkkllkkjdbpjpaaPe
import Derived.Test.YtkkllkkjdbpjpaaPh
import Derived.Test.YtkkllkkjdbpjpaaPm
import Derived.Test.YtkkllkkjdbpjpaaPc
import Derived.Test.YtkkllkkjdbpjpaaPs
import Derived.Test.YtkkllkkjdbpjpaaPt
import Derived.Test.YtkkllkkjdbpjpaaPu
import Derived.Test.YtkkllkkjdbpjpaaPv
import Derived.Test.YtkkllkkjdbpjpaaPw
import Derived.Test.YtkkllkkjdbpjpaaPx
import Derived.Test.YtkkllkkjdbpjpaaPy
import Derived.Test.YtkkllkkjdbpjpaaPz
import Derived.Test.YtkkllkkjdbpjpaaPr
import Derived.Test.YtkkllkkjdbpjpaaPa
import Derived.Test.YtkkllkkjdbpjpaaPn
import Derived.Test.YtkkllkkjdbpjpaaPj
import Derived.Test.YtkkllkkjdbpjpaaPq
import Derived.Test.YtkkllkkjdbpjpaaSp
import Derived.Test.YtkkllkkjdbpjpaaPp
import Derived.Test.YtkkllkkjdbpjpaaSs
import Derived.Test.YtkkllkkjdbpjpaaSr
import Derived.Test.YtkkllkkjdbpjpaaPb
import Derived.Test.YtkkllkkjdbpjpaaSe
import Derived.Test.YtkkllkkjdbpjpaaSf
import Derived.Test.YtkkllkkjdbpjpaaT
import Derived.Test.YtkkllkkjdbpjpaaW2
import Derived.Test.YtkkllkkjdbpjpaaW5
import Derived.Test.YtkkllkkjdbpjpaaW13
import Derived.Test.YtkkllkkjdbpjpaaW23
import Derived.Test.YtkkllkkjdbpjpaaW44
import Derived.KernelRfl
namespace Go.Proofs.Ytkkllkkjdbpjpaa.W45
open Go.Sx Go.RowKit Go.Proofs.Ytkkllkkjdbpjpaa.T Go.Proofs.Ytkkllkkjdbpjpaa.W2 Go.Proofs.Ytkkllkkjdbpjpaa.W5 Go.Proofs.Ytkkllkkjdbpjpaa.W13 Go.Proofs.Ytkkllkkjdbpjpaa.W23 Go.Proofs.Ytkkllkkjdbpjpaa.W44
open Go.Plain
set_option linter.unusedVariables false
set_option maxRecDepth 100000 in
theorem TreeCodeS_c (w : World) (N : Int) (A : Option Addr) (n : Nat) (c : Nat) (es : List (Int × Int)) (hA : At w A (cells fE es)) (eA : es.length = n) (lA : n ≤ c) (hs : es.length ≤ 1048576) : Calls Try.prog 14 #[.agg #[.int .i64 (N), .slice A (n) (c)]] w (Ret fun rv w' => ∃ A2 k2 c2, ((codeP N es).1.length ≤ k2) ∧ rv = .tuple #[.slice A2 ((codeP N es).1.length) (k2), .bool ((codeP N es).2)] ∧ New w w' [row 3 1 A2 ((codeP N es).1.length) (c2) (cells fI ((codeP N es).1))]) := by
  have oA := hA.atB
  subst eA
  refine fn_enter (args := [.agg #[.int .i64 (N), .slice A (es.length) (c)]]) Try.func14 rfl Try.ntmps14 rfl (SS.start w) ?_
  refine cw_seq ?_
  refine cw_region ?_
  refine wl_r (or_box rfl rfl) rfl rfl (kt1 rfl (fun g1 => ?_))
  refine wl_v (ov_assign rfl) rfl rfl rfl ?_
  refine wl_v (ov_assign rfl) rfl rfl rfl ?_
  refine wl_nil ?_
  refine ce_then ?_
  refine cw_seq ?_
  refine cw_seq ?_
  refine cw_region ?_
  refine wl_v (ov_loadAgg (vs := [.int .i64 (N), .slice A (es.length) (c)]) tI25 (holds_blk (List.Mem.head _)) rfl some_lit rfl rfl) rfl rfl rfl ?_
  refine wl_r (or_call (fv := []) (vs := [.agg #[.int .i64 (N), .slice A (es.length) (c)]]) (cs := []) en40 rfl rfl (call_v (fun w hw => validGraphS_c w N A es.length c es ((holds_old oA) w hw) rfl lA (by first | assumption | omega | (simp; omega))))) rfl rfl (kt_if rfl (fun c5 => ?_) (fun c5 => ?_))
  ·
    refine wl_v (ov_not rfl) rfl rfl rfl ?_
    refine wl_v (ov_move rfl) rfl rfl rfl ?_
    refine wl_go rfl rfl ?_
    refine wl_v (ov_fieldAddr fI25_0 some_lit rfl) rfl rfl rfl ?_
    refine wl_go rfl rfl ?_
    refine wl_v (ov_load tI3 (holds_blk (List.Mem.head _)) rfl rfl) rfl rfl rfl ?_
    refine wl_go rfl rfl ?_
    refine wl_if (ov_lss rfl rfl) rfl rfl rfl (fun c10 => ?_) (fun c10 => ?_)
    ·
      refine wl_v (ov_pick_f rfl rfl) rfl rfl rfl ?_
      refine wl_v (ov_move rfl) rfl rfl rfl ?_
      refine wl_not rfl rfl rfl rfl rfl rfl ?_
      refine wl_not rfl rfl rfl rfl rfl rfl ?_
      refine wl_not rfl rfl rfl rfl rfl rfl ?_
      refine wl_v (ov_pick_t rfl rfl) rfl rfl rfl ?_
      refine wl_nil ?_
      refine ce_then ?_
      refine cw_true rfl ?_
      refine cw_seq ?_
      have hv : codeP N es = ([], false) := if_neg (fun h => by have := h.2.1; omega)
      refine ct_none fI 3 1 ?_
      refine cw_region ?_
      refine wl_v (ov_assign rfl) rfl rfl rfl ?_
      refine wl_v (ov_assign rfl) rfl rfl rfl ?_
      refine wl_nil ?_
      refine ce_then ?_
      refine cw_ret ?_
      refine ce_then_ret ?_
      refine ce_results (v := .tuple #[.slice none (0) (0), .bool false]) (res2 rfl (rv_t rfl) (rv_t rfl)) (fun w' hw => ?_)
      exact ⟨none, 0, 0, (by rw [hv]; exact Nat.le_refl _), (by rw [hv] <;> rfl), ((.consE (show row 3 1 none (0) (0) (cells fI ([])) = row 3 1 none ((codeP N es).1.length) (0) (cells fI ((codeP N es).1)) by rw [hv] <;> rfl) (.head) (.nil) : Keep _ _).ss hw).to_new⟩
    ·
      refine wl_v (ov_pick_f rfl rfl) rfl rfl rfl ?_
      refine wl_v (ov_move rfl) rfl rfl rfl ?_
      obtain ⟨m, rfl⟩ := Int.eq_ofNat_of_zero_le (show 0 ≤ N from c5.2.1)
      have hg : Gr m es := by have h9 := c5.gr; rwa [Int.toNat_natCast] at h9
      have hm : m ≤ 7 := by have h9 := c5.2.2; omega
      refine wl_go rfl rfl ?_
      refine wl_v (ov_loadAgg (vs := [.int .i64 (((m : Nat) : Int)), .slice A (es.length) (c)]) tI25 (holds_blk (List.Mem.head _)) rfl some_lit rfl rfl) rfl rfl rfl ?_
      refine wl_go rfl rfl ?_
      refine wl_r (or_call (fv := []) (vs := [.agg #[.int .i64 (((m : Nat) : Int)), .slice A (es.length) (c)]]) (cs := []) en45 rfl rfl (call_v (fun w hw => isTreeG_c w m A es.length c es ((holds_old oA) w hw) rfl lA (by first | assumption | omega | (simp; omega)) (by first | assumption | omega | (simp; omega))))) rfl rfl (kt_if rfl (fun c14 => ?_) (fun c14 => ?_))
      ·
        have hTP : IsTreeP ((m : Nat) : Int) es := ⟨c5, by omega, by omega, by rw [Int.toNat_natCast]; exact c14.2⟩
        have hv : codeP ((m : Nat) : Int) es = (tcOut m es (m - 2), true) := by unfold codeP; rw [if_pos hTP, Int.toNat_natCast]
        have hL := hTP.leafy
        refine wl_go rfl rfl ?_
        refine wl_v (ov_not rfl) rfl rfl rfl ?_
        refine wl_v (ov_pick_f rfl rfl) rfl rfl rfl ?_
        refine wl_nil ?_
        refine ce_then ?_
        refine cw_false rfl ?_
        refine cw_skip ?_
        refine ce_then ?_
        refine cw_seq ?_
        refine cw_region ?_
        refine wl_v (ov_loadAgg (vs := [.int .i64 (((m : Nat) : Int)), .slice A (es.length) (c)]) tI25 (holds_blk (List.Mem.head _)) rfl some_lit rfl rfl) rfl rfl rfl ?_
        refine wl_r (or_call (fv := []) (vs := [.agg #[.int .i64 (((m : Nat) : Int)), .slice A (es.length) (c)]]) (cs := []) en46 rfl rfl (call_x2 (fun w hw => treeCodeS_c w m A es.length c es ((holds_old oA) w hw) rfl lA (by first | assumption | omega | (simp; omega)) (by first | assumption | omega | (simp; omega)) (by omega) (by have := c14.1; omega) hL))) rfl rfl (kt2p rfl (fun A2_18 c2_18 h_18 => ?_))
        refine wl_v (ov_assign rfl) rfl rfl rfl ?_
        refine wl_v (ov_assign rfl) rfl rfl rfl ?_
        refine wl_nil ?_
        refine ce_then ?_
        refine cw_ret ?_
        refine ce_results (v := .tuple #[.slice A2_18 (m - 2) (c2_18), .bool true]) (res2 rfl (rv_t rfl) (rv_t rfl)) (fun w' hw => ?_)
        exact ⟨A2_18, c2_18, c2_18, (by rw [hv]; show (tcOut m es (m - 2)).length ≤ _; rw [tcOut_length]; exact h_18), (by rw [hv]; show _ = Value.tuple #[.slice _ (tcOut m es (m - 2)).length _, _]; rw [tcOut_length]), ((.consE (show row 3 1 A2_18 (m - 2) (c2_18) (cells fI (tcOut m es (m - 2))) = row 3 1 A2_18 ((codeP ((m : Nat) : Int) es).1.length) (c2_18) (cells fI ((codeP ((m : Nat) : Int) es).1)) by rw [hv]; show _ = row 3 1 _ (tcOut m es (m - 2)).length _ _; rw [tcOut_length]) (.head) (.nil) : Keep _ _).ss hw).to_new⟩
      ·
        refine wl_go rfl rfl ?_
        refine wl_v (ov_not rfl) rfl rfl rfl ?_
        refine wl_v (ov_pick_f rfl rfl) rfl rfl rfl ?_
        refine wl_nil ?_
        refine ce_then ?_
        refine cw_true rfl ?_
        refine cw_seq ?_
        have hv : codeP ((m : Nat) : Int) es = ([], false) := if_neg (fun h => c14 ⟨by have := h.2.2.1; omega, by have := h.2.2.2; rwa [Int.toNat_natCast] at this⟩)
        refine ct_none fI 3 1 ?_
        refine cw_region ?_
        refine wl_v (ov_assign rfl) rfl rfl rfl ?_
        refine wl_v (ov_assign rfl) rfl rfl rfl ?_
        refine wl_nil ?_
        refine ce_then ?_
        refine cw_ret ?_
        refine ce_then_ret ?_
        refine ce_results (v := .tuple #[.slice none (0) (0), .bool false]) (res2 rfl (rv_t rfl) (rv_t rfl)) (fun w' hw => ?_)
        exact ⟨none, 0, 0, (by rw [hv]; exact Nat.le_refl _), (by rw [hv] <;> rfl), ((.consE (show row 3 1 none (0) (0) (cells fI ([])) = row 3 1 none ((codeP ((m : Nat) : Int) es).1.length) (0) (cells fI ((codeP ((m : Nat) : Int) es).1)) by rw [hv] <;> rfl) (.head) (.nil) : Keep _ _).ss hw).to_new⟩
  ·
    refine wl_v (ov_not rfl) rfl rfl rfl ?_
    refine wl_v (ov_move rfl) rfl rfl rfl ?_
    refine wl_not rfl rfl rfl rfl rfl rfl ?_
    refine wl_not rfl rfl rfl rfl rfl rfl ?_
    refine wl_not rfl rfl rfl rfl rfl rfl ?_
    refine wl_v (ov_pick_t rfl rfl) rfl rfl rfl ?_
    refine wl_v (ov_move rfl) rfl rfl rfl ?_
    refine wl_not rfl rfl rfl rfl rfl rfl ?_
    refine wl_not rfl rfl rfl rfl rfl rfl ?_
    refine wl_not rfl rfl rfl rfl rfl rfl ?_
    refine wl_v (ov_pick_t rfl rfl) rfl rfl rfl ?_
    refine wl_nil ?_
    refine ce_then ?_
    refine cw_true rfl ?_
    refine cw_seq ?_
    have hv : codeP N es = ([], false) := if_neg (fun h => c5 h.1)
    refine ct_none fI 3 1 ?_
    refine cw_region ?_
    refine wl_v (ov_assign rfl) rfl rfl rfl ?_
    refine wl_v (ov_assign rfl) rfl rfl rfl ?_
    refine wl_nil ?_
    refine ce_then ?_
    refine cw_ret ?_
    refine ce_then_ret ?_
    refine ce_results (v := .tuple #[.slice none (0) (0), .bool false]) (res2 rfl (rv_t rfl) (rv_t rfl)) (fun w' hw => ?_)
    exact ⟨none, 0, 0, (by rw [hv]; exact Nat.le_refl _), (by rw [hv] <;> rfl), ((.consE (show row 3 1 none (0) (0) (cells fI ([])) = row 3 1 none ((codeP N es).1.length) (0) (cells fI ((codeP N es).1)) by rw [hv] <;> rfl) (.head) (.nil) : Keep _ _).ss hw).to_new⟩
set_option maxRecDepth 100000 in
theorem TreeCodeI_c (w : World) (N : Int) (A : Option Addr) (n : Nat) (c : Nat) (es : List (Int × Int)) (hA : At w A (cells fE es)) (eA : es.length = n) (lA : n ≤ c) (hs : es.length ≤ 1048576) (hN : N ≤ 9223372036854775807) : Calls Try.prog 16 #[.agg #[.int .i64 (N), .slice A (n) (c)]] w (Ret fun rv w' => ∃ A2 k2 c2, ((codeP N es).1.length ≤ k2) ∧ rv = .tuple #[.slice A2 ((codeP N es).1.length) (k2), .bool ((codeP N es).2)] ∧ New w w' [row 3 1 A2 ((codeP N es).1.length) (c2) (cells fI ((codeP N es).1))]) := by
  have oA := hA.atB
  subst eA
  refine fn_enter (args := [.agg #[.int .i64 (N), .slice A (es.length) (c)]]) Try.func16 rfl Try.ntmps16 rfl (SS.start w) ?_
  refine cw_seq ?_
  refine cw_region ?_
  refine wl_r (or_box rfl rfl) rfl rfl (kt1 rfl (fun g1 => ?_))
  refine wl_v (ov_assign rfl) rfl rfl rfl ?_
  refine wl_v (ov_assign rfl) rfl rfl rfl ?_
  refine wl_nil ?_
  refine ce_then ?_
  refine cw_seq ?_
  refine cw_seq ?_
  refine cw_region ?_
  refine wl_v (ov_loadAgg (vs := [.int .i64 (N), .slice A (es.length) (c)]) tI25 (holds_blk (List.Mem.head _)) rfl some_lit rfl rfl) rfl rfl rfl ?_
  refine wl_r (or_call (fv := []) (vs := [.agg #[.int .i64 (N), .slice A (es.length) (c)]]) (cs := []) en48 rfl rfl (call_v (fun w hw => isConn_c w N A es.length c es ((holds_old oA) w hw) rfl lA (by first | assumption | omega | (simp; omega)) (by first | assumption | omega | (simp; omega))))) rfl rfl (kt_if rfl (fun c9 => ?_) (fun c9 => ?_))
  ·
    obtain ⟨m, rfl⟩ := Int.eq_ofNat_of_zero_le (show 0 ≤ N from c9.1.2.1)
    have hg : Gr m es := by have h9 := c9.1.gr; rwa [Int.toNat_natCast] at h9
    have hm : m ≤ 7 := by have h9 := c9.1.2.2; omega
    have hcl : (compsL m es).length = 1 := by have h9 := c9.2; rwa [Int.toNat_natCast] at h9
    have hel := hg.len (by omega)
    refine wl_v (ov_not rfl) rfl rfl rfl ?_
    refine wl_v (ov_move rfl) rfl rfl rfl ?_
    refine wl_go rfl rfl ?_
    refine wl_v (ov_fieldAddr fI25_0 some_lit rfl) rfl rfl rfl ?_
    refine wl_go rfl rfl ?_
    refine wl_v (ov_load tI3 (holds_blk (List.Mem.head _)) rfl rfl) rfl rfl rfl ?_
    refine wl_go rfl rfl ?_
    refine wl_if (ov_lss rfl rfl) rfl rfl rfl (fun c14 => ?_) (fun c14 => ?_)
    ·
      refine wl_v (ov_pick_f rfl rfl) rfl rfl rfl ?_
      refine wl_v (ov_move rfl) rfl rfl rfl ?_
      refine wl_not rfl rfl rfl rfl rfl rfl ?_
      refine wl_not rfl rfl rfl rfl rfl rfl ?_
      refine wl_not rfl rfl rfl rfl rfl rfl ?_
      refine wl_not rfl rfl rfl rfl rfl rfl ?_
      refine wl_not rfl rfl rfl rfl rfl rfl ?_
      refine wl_not rfl rfl rfl rfl rfl rfl ?_
      refine wl_not rfl rfl rfl rfl rfl rfl ?_
      refine wl_v (ov_pick_t rfl rfl) rfl rfl rfl ?_
      refine wl_nil ?_
      refine ce_then ?_
      refine cw_true rfl ?_
      refine cw_seq ?_
      have hv : codeP ((m : Nat) : Int) es = ([], false) := if_neg (fun h => by have := h.2.1; omega)
      refine ct_none fI 3 1 ?_
      refine cw_region ?_
      refine wl_v (ov_assign rfl) rfl rfl rfl ?_
      refine wl_v (ov_assign rfl) rfl rfl rfl ?_
      refine wl_nil ?_
      refine ce_then ?_
      refine cw_ret ?_
      refine ce_then_ret ?_
      refine ce_results (v := .tuple #[.slice none (0) (0), .bool false]) (res2 rfl (rv_t rfl) (rv_t rfl)) (fun w' hw => ?_)
      exact ⟨none, 0, 0, (by rw [hv]; exact Nat.le_refl _), (by rw [hv] <;> rfl), ((.consE (show row 3 1 none (0) (0) (cells fI ([])) = row 3 1 none ((codeP ((m : Nat) : Int) es).1.length) (0) (cells fI ((codeP ((m : Nat) : Int) es).1)) by rw [hv] <;> rfl) (.head) (.nil) : Keep _ _).ss hw).to_new⟩
    ·
      refine wl_v (ov_pick_f rfl rfl) rfl rfl rfl ?_
      refine wl_v (ov_move rfl) rfl rfl rfl ?_
      refine wl_go rfl rfl ?_
      refine wl_v (ov_fieldAddr fI25_1 some_lit rfl) rfl rfl rfl ?_
      refine wl_go rfl rfl ?_
      refine wl_v (ov_load tI23 (holds_blk (List.Mem.head _)) rfl rfl) rfl rfl rfl ?_
      refine wl_go rfl rfl ?_
      refine wl_v (ov_len (sliceI_spec sI23) rfl) rfl rfl rfl ?_
      refine wl_go rfl rfl ?_
      refine wl_v (ov_fieldAddr fI25_0 some_lit rfl) rfl rfl rfl ?_
      refine wl_go rfl rfl ?_
      refine wl_v (ov_load tI3 (holds_blk (List.Mem.head _)) rfl rfl) rfl rfl rfl ?_
      refine wl_go rfl rfl ?_
      refine wl_v (ov_sub (r := ((m : Nat) : Int) - 1) rfl rfl rfl (by omega)) rfl rfl rfl ?_
      refine wl_go rfl rfl ?_
      refine wl_if (ov_neq rfl rfl) rfl rfl rfl (fun c23 => ?_) (fun c23 => ?_)
      ·
        refine wl_v (ov_pick_f rfl rfl) rfl rfl rfl ?_
        refine wl_nil ?_
        refine ce_then ?_
        refine cw_true rfl ?_
        refine cw_seq ?_
        have hv : codeP ((m : Nat) : Int) es = ([], false) := if_neg (fun h => by have := h.2.2.1; omega)
        refine ct_none fI 3 1 ?_
        refine cw_region ?_
        refine wl_v (ov_assign rfl) rfl rfl rfl ?_
        refine wl_v (ov_assign rfl) rfl rfl rfl ?_
        refine wl_nil ?_
        refine ce_then ?_
        refine cw_ret ?_
        refine ce_then_ret ?_
        refine ce_results (v := .tuple #[.slice none (0) (0), .bool false]) (res2 rfl (rv_t rfl) (rv_t rfl)) (fun w' hw => ?_)
        exact ⟨none, 0, 0, (by rw [hv]; exact Nat.le_refl _), (by rw [hv] <;> rfl), ((.consE (show row 3 1 none (0) (0) (cells fI ([])) = row 3 1 none ((codeP ((m : Nat) : Int) es).1.length) (0) (cells fI ((codeP ((m : Nat) : Int) es).1)) by rw [hv] <;> rfl) (.head) (.nil) : Keep _ _).ss hw).to_new⟩
      ·
        have hTP : IsTreeP ((m : Nat) : Int) es := ⟨c9.1, by omega, by omega, by rw [Int.toNat_natCast]; exact hcl⟩
        have hv : codeP ((m : Nat) : Int) es = (tcOut m es (m - 2), true) := by unfold codeP; rw [if_pos hTP, Int.toNat_natCast]
        have hL := hTP.leafy
        refine wl_v (ov_pick_f rfl rfl) rfl rfl rfl ?_
        refine wl_nil ?_
        refine ce_then ?_
        refine cw_false rfl ?_
        refine cw_skip ?_
        refine ce_then ?_
        refine cw_seq ?_
        refine cw_region ?_
        refine wl_v (ov_assign rfl) rfl rfl rfl ?_
        refine wl_nil ?_
        refine ce_then ?_
        refine cw_seq ?_
        refine ct_none fI 3 1 ?_
        refine cw_region ?_
        refine wl_v (ov_fieldAddr fI25_1 some_lit rfl) rfl rfl rfl ?_
        refine wl_v (ov_load tI23 (holds_blk (List.Mem.tail _ (List.Mem.head _))) rfl rfl) rfl rfl rfl ?_
        refine wl_r (or_call (fv := []) (vs := [.slice A (es.length) (c)]) (cs := []) en49 rfl rfl (call_x2 (fun w hw => cloneCE_c w A es.length c es ((holds_old oA) w hw) rfl lA (by first | assumption | omega | (simp; omega))))) rfl rfl (kt2p rfl (fun A2_27 c2_27 h_27 => ?_))
        refine wl_v (ov_assign rfl) rfl rfl rfl ?_
        refine wl_nil ?_
        refine ce_then ?_
        refine cw_seq ?_
        refine cw_block ?_
        refine cw_loop3 (fun (k : Nat) (A4 : Option Addr) (c4 : Nat) => [(1, elp (some ⟨g1, 0, none⟩) (0)), (2, .slice none (0) (0)), (3, .bool false), (4, .slice A4 (k) (c4)), (5, .slice A2_27 ((tcTo m es k).length) (es.length))]) (fun (k : Nat) (A4 : Option Addr) (c4 : Nat) => [row 65 2 A2_27 ((tcTo m es k).length) (c2_27) (cells fE (tcTo m es k)), row 3 1 A4 (k) (c4) (cells fI (tcOut m es k)), blk g1 [.int .i64 (((m : Nat) : Int)), .slice A (es.length) (c)] 25]) (fun (k : Nat) (A4 : Option Addr) (c4 : Nat) => k ≤ m - 2 ∧ k ≤ c4) (fun (k : Nat) (A4 : Option Addr) (c4 : Nat) => m - k) 0 none 0 ⟨by omega, by omega⟩ (.cons rfl (.cons rfl (.cons rfl (.cons rfl (.cons rfl (.nil)))))) (.consE (show row 65 2 A2_27 (es.length) (c2_27) (cells fE es) = row 65 2 A2_27 ((tcTo m es 0).length) (c2_27) (cells fE (tcTo m es 0)) by rfl) (.head) (.consE (show row 3 1 none (0) (0) (cells fI ([])) = row 3 1 none (0) (0) (cells fI (tcOut m es 0)) by rfl) (.head) (.cons (.head) (.nil)))) ?_
        intro R0 k A4 c4 hk hR0
        obtain ⟨hk1, hk2⟩ := hk
        have hsq := seq_ok hg hL k (by omega)
        have hql := hsq.len
        have hol := tcOut_length m es k
        refine cw_seq ?_
        refine cw_seq ?_
        refine cw_region ?_
        refine wl_v (ov_move rfl) rfl rfl rfl ?_
        refine wl_v (ov_len (sliceI_spec sI23) rfl) rfl rfl rfl ?_
        refine wl_if (ov_gtr rfl rfl) rfl rfl rfl (fun c30 => ?_) (fun c30 => ?_)
        ·
          obtain ⟨v0, p0, u0, hst⟩ := seq_step hL hsq (by omega)
          have hvl := hst.lt
          have hnr := hst.nbr
          have hpl := hst.plt
          have hux := hst.nbX
          have hpe := hsq.gr.inr _ (getD_mem (xs := tcTo m es k) (k := p0) (0, 0) hpl)
          have hln : (tcTo m es (k + 1)).length = (tcTo m es k).length - 1 := by have := hst.len; rw [tcTo_succ]; omega
          refine wl_nil ?_
          refine ce_then ?_
          refine cw_true rfl ?_
          refine cw_skip ?_
          refine ce_then ?_
          refine cw_block ?_
          refine cw_seq ?_
          refine cw_region ?_
          refine wl_v (ov_fieldAddr fI25_0 some_lit rfl) rfl rfl rfl ?_
          refine wl_v (ov_load tI3 (holds_blk (List.Mem.tail _ (List.Mem.tail _ (List.Mem.head _)))) rfl rfl) rfl rfl rfl ?_
          refine wl_v (ov_move rfl) rfl rfl rfl ?_
          refine wl_v (ov_build (is := [0, 1]) (vs := [.int .i64 (((m : Nat) : Int)), .slice A2_27 ((tcTo m es k).length) (es.length)]) (v := .agg #[.int .i64 (((m : Nat) : Int)), .slice A2_27 ((tcTo m es k).length) (es.length)]) rfl rfl (fun _ => by kernel_rfl)) rfl rfl rfl ?_
          refine wl_r (or_call (fv := []) (vs := [.agg #[.int .i64 (((m : Nat) : Int)), .slice A2_27 ((tcTo m es k).length) (es.length)]]) (cs := []) en33 rfl rfl (call_x1 (fun w hw => degreesI_c w m A2_27 ((tcTo m es k).length) es.length (tcTo m es k) ((holds_row (List.Mem.head _)) w hw) rfl (by omega) (by omega) (by first | assumption | omega | (simp; omega)) hsq.gr.inr))) rfl rfl (kt1p rfl (fun g_35 h_35 => ?_))
          refine wl_r (or_call (fv := []) (vs := [.slice (some ⟨g_35, 0, none⟩) (m) (m), .int .i64 (1)]) (cs := []) en50 rfl rfl (call_v (fun w hw => indexI_c w (some ⟨g_35, 0, none⟩) m m (degs m (tcTo m es k)) 1 ((holds_row (List.Mem.head _)) w hw) (degs_length _ _) (Nat.le_refl _) (by rw [degs_length]; omega)))) rfl rfl (kt0 rfl ?_)
          refine ct_keep (L' := [(1, elp (some ⟨g1, 0, none⟩) (0)), (2, .slice none (0) (0)), (3, .bool false), (4, .slice A4 (k) (c4)), (5, .slice A2_27 ((tcTo m es k).length) (es.length)), (28, .slice A2_27 ((tcTo m es k).length) (es.length)), (29, .int .i64 ((((tcTo m es k).length : Nat) : Int))), (30, .bool true), (31, elp (some ⟨g1, 0, none⟩) (0)), (32, .int .i64 (((m : Nat) : Int))), (33, .slice A2_27 ((tcTo m es k).length) (es.length)), (34, .agg #[.int .i64 (((m : Nat) : Int)), .slice A2_27 ((tcTo m es k).length) (es.length)]), (35, .slice (some ⟨g_35, 0, none⟩) (m) (m)), (36, .int .i64 (((v0 : Nat) : Int)))]) (.cons rfl (.cons rfl (.cons rfl (.cons rfl (.cons rfl (.cons rfl (.cons rfl (.cons rfl (.cons rfl (.cons rfl (.cons rfl (.cons rfl (.cons rfl (.cons (congrArg (fun z => some (Value.int .i64 z)) (show (idxF (fun x => decide (x = 1)) (degs m (tcTo m es k))) = ((v0 : Nat) : Int) from hst.leaf)) (.nil))))))))))))))) .refl ?_
          refine wl_r (or_alloc tI3 rfl) rfl rfl (kt1 rfl (fun g6 => ?_))
          refine wl_r0 (or_store_blk (vs := [.int .i64 (((v0 : Nat) : Int))]) (cs' := [.int .i64 (((v0 : Nat) : Int))]) (.head) tI3 rfl rfl rfl rfl (Nat.le_of_ble_eq_true rfl) rfl) rfl rfl (kn0 ?_)
          refine wl_nil ?_
          refine ce_then ?_
          refine cw_seq ?_
          refine cw_region ?_
          refine wl_v (ov_move rfl) rfl rfl rfl ?_
          refine wl_v (ov_makeFunc (vs := #[elp (some ⟨g6, 0, none⟩) (0)]) rfl) rfl rfl rfl ?_
          refine wl_r (or_call (fv := []) (vs := [.slice A2_27 ((tcTo m es k).length) (es.length), .func (.func 52) #[] #[elp (some ⟨g6, 0, none⟩) (0)]]) (cs := []) en51 rfl rfl (call_v (fun w hw => indexFuncE_c w A2_27 ((tcTo m es k).length) es.length (tcTo m es k) 52 ([elp (some ⟨g6, 0, none⟩) (0)]) (touchV ((v0 : Nat) : Int)) ((holds_row (List.Mem.tail _ (List.Mem.tail _ (List.Mem.head _)))) w hw) rfl (by omega) (by omega) en52 (fun x hx w' hb => tree1_c w' x.1 x.2 g6 ((v0 : Nat) : Int) ((holds_blk (List.Mem.head _)) w' (hw.later hb)))))) rfl rfl (kt0 rfl ?_)
          refine ct_keep (L' := [(1, elp (some ⟨g1, 0, none⟩) (0)), (2, .slice none (0) (0)), (3, .bool false), (4, .slice A4 (k) (c4)), (5, .slice A2_27 ((tcTo m es k).length) (es.length)), (6, elp (some ⟨g6, 0, none⟩) (0)), (28, .slice A2_27 ((tcTo m es k).length) (es.length)), (29, .int .i64 ((((tcTo m es k).length : Nat) : Int))), (30, .bool true), (31, elp (some ⟨g1, 0, none⟩) (0)), (32, .int .i64 (((m : Nat) : Int))), (33, .slice A2_27 ((tcTo m es k).length) (es.length)), (34, .agg #[.int .i64 (((m : Nat) : Int)), .slice A2_27 ((tcTo m es k).length) (es.length)]), (35, .slice (some ⟨g_35, 0, none⟩) (m) (m)), (36, .int .i64 (((v0 : Nat) : Int))), (37, .slice A2_27 ((tcTo m es k).length) (es.length)), (38, .func (.func 52) #[] #[elp (some ⟨g6, 0, none⟩) (0)]), (39, .int .i64 (((p0 : Nat) : Int)))]) (.cons rfl (.cons rfl (.cons rfl (.cons rfl (.cons rfl (.cons rfl (.cons rfl (.cons rfl (.cons rfl (.cons rfl (.cons rfl (.cons rfl (.cons rfl (.cons rfl (.cons rfl (.cons rfl (.cons rfl (.cons (congrArg (fun z => some (Value.int .i64 z)) (show (idxF (touchV ((v0 : Nat) : Int)) (tcTo m es k)) = ((p0 : Nat) : Int) from hst.at2)) (.nil))))))))))))))))))) .refl ?_
          refine wl_v (ov_assign rfl) rfl rfl rfl ?_
          refine wl_nil ?_
          refine ce_then ?_
          refine cw_seq ?_
          refine cw_draw mixO [] (.cons (.head) (.cons (.head) (.cons (.head) (.cons (.tail .head) (.nil))))) rfl ?_
          refine wg_takep (i := 0) rfl (ov_move rfl) rfl rfl rfl (by kernel_rfl) (by kernel_rfl) (by kernel_rfl) rfl ?_
          refine wg_takep (i := 1) rfl (ov_move rfl) rfl rfl rfl (by kernel_rfl) (by kernel_rfl) (by kernel_rfl) rfl ?_
          refine wg_takep (i := 2) rfl (ov_move rfl) rfl rfl rfl (by kernel_rfl) (by kernel_rfl) (by kernel_rfl) rfl ?_
          refine wg_take (i := 3) rfl (ov_index (k := p0) (c := es.length) sI23 tI65 rfl rfl (some_holds (q := p0 * 2) (holds_row (List.Mem.tail _ (List.Mem.tail _ (List.Mem.head _)))) (by rw [cells_length fE_len]; have hlt : p0 < (tcTo m es k).length := (by omega); omega)) (show p0 < (tcTo m es k).length from (by omega))) rfl rfl rfl (by kernel_rfl) (by kernel_rfl) (by kernel_rfl) (by kernel_rfl) ?_
          refine wg_take (i := 4) rfl (ov_fieldAddr fI65_0 (some_holds (q := p0 * 2) (holds_row (List.Mem.tail _ (List.Mem.tail _ (List.Mem.head _)))) (by rw [cells_length fE_len]; have hlt : p0 < (tcTo m es k).length := (by omega); omega)) rfl) rfl rfl rfl (by kernel_rfl) (by kernel_rfl) (by kernel_rfl) (by kernel_rfl) ?_
          refine wg_take (i := 5) rfl (ov_load tI3 (holds_row (List.Mem.tail _ (List.Mem.tail _ (List.Mem.head _)))) rfl (get_fE0 (show p0 < (tcTo m es k).length from (by omega)))) rfl rfl rfl (by kernel_rfl) (by kernel_rfl) (by kernel_rfl) (by kernel_rfl) ?_
          refine wg_takep (i := 6) rfl (ov_move rfl) rfl rfl rfl (by kernel_rfl) (by kernel_rfl) (by kernel_rfl) rfl ?_
          refine wg_takep (i := 7) rfl (ov_move rfl) rfl rfl rfl (by kernel_rfl) (by kernel_rfl) (by kernel_rfl) rfl ?_
          refine wg_take (i := 8) rfl (ov_index (k := p0) (c := es.length) sI23 tI65 rfl rfl (some_holds (q := p0 * 2) (holds_row (List.Mem.tail _ (List.Mem.tail _ (List.Mem.head _)))) (by rw [cells_length fE_len]; have hlt : p0 < (tcTo m es k).length := (by omega); omega)) (show p0 < (tcTo m es k).length from (by omega))) rfl rfl rfl (by kernel_rfl) (by kernel_rfl) (by kernel_rfl) (by kernel_rfl) ?_
          refine wg_take (i := 9) rfl (ov_fieldAddr fI65_1 (some_holds (q := p0 * 2) (holds_row (List.Mem.tail _ (List.Mem.tail _ (List.Mem.head _)))) (by rw [cells_length fE_len]; have hlt : p0 < (tcTo m es k).length := (by omega); omega)) rfl) rfl rfl rfl (by kernel_rfl) (by kernel_rfl) (by kernel_rfl) (by kernel_rfl) ?_
          refine wg_take (i := 10) rfl (ov_load tI3 (holds_row (List.Mem.tail _ (List.Mem.tail _ (List.Mem.head _)))) rfl (get_fE1 (show p0 < (tcTo m es k).length from (by omega)))) rfl rfl rfl (by kernel_rfl) (by kernel_rfl) (by kernel_rfl) (by kernel_rfl) ?_
          refine wg_takep (i := 11) rfl (ov_add (r := (((tcTo m es k).getD p0 (0, 0)).1) + (((tcTo m es k).getD p0 (0, 0)).2)) rfl rfl rfl (by omega)) rfl rfl rfl (by kernel_rfl) (by kernel_rfl) (by kernel_rfl) rfl ?_
          refine wg_take (i := 12) rfl (ov_load tI3 (holds_blk (List.Mem.head _)) rfl rfl) rfl rfl rfl (by kernel_rfl) (by kernel_rfl) (by kernel_rfl) (by kernel_rfl) ?_
          refine wg_takep (i := 13) rfl (ov_sub (r := u0) rfl rfl (by omega) (by omega)) rfl rfl rfl (by kernel_rfl) (by kernel_rfl) (by kernel_rfl) rfl ?_
          refine wg_one (i := 14) (by kernel_rfl) ?_
          refine go_r rfl rfl rfl rfl (or_buildSlice (e := 3) (size := 1) (is := [0]) (vs := [.int .i64 (u0)]) (cs := cells fI ([u0])) rfl rfl rfl (by decide) (fun _ => by kernel_rfl)) (kt1 rfl (fun g54 => ?_))
          refine gk (.cons (.tail .head) (.cons (.tail .head) (.cons (.tail .head) (.cons (.tail (.tail .head)) (.nil))))) ?_
          refine wg_one (i := 15) (by kernel_rfl) ?_
          refine go_r rfl rfl rfl rfl (or_append (c2 := 1) sI38 tI3 rfl (by decide) rfl rfl (.tail (.tail (.tail (.tail .head)))) (holds_row (List.Mem.head _)) (by rw [cells_length fI_len]; try simp) (one_cells fI_one _) cells_append (by omega) (by omega)) (kt2p rfl (fun A55 c55 h55 => ?_))
          refine gk (.cons (.tail (.tail .head)) (.cons (.tail (.tail .head)) (.cons (.tail (.tail .head)) (.cons (.tail (.tail .head)) (.nil))))) ?_
          refine wg_takep (i := 16) rfl (ov_assign rfl) rfl rfl rfl (by kernel_rfl) (by kernel_rfl) (by kernel_rfl) rfl ?_
          refine wg_done (by kernel_rfl) ?_
          refine ce_then ?_
          refine cw_region ?_
          refine wl_v (ov_move rfl) rfl rfl rfl ?_
          refine wl_v (ov_move rfl) rfl rfl rfl ?_
          refine wl_v (ov_move rfl) rfl rfl rfl ?_
          refine wl_v (ov_add (r := ((p0 + 1 : Nat) : Int)) rfl rfl rfl (by omega)) rfl rfl rfl ?_
          refine wl_r (or_call (fv := []) (vs := [.slice A2_27 ((tcTo m es k).length) (es.length), .int .i64 (((p0 : Nat) : Int)), .int .i64 (((p0 + 1 : Nat) : Int))]) (cs := []) en53 rfl rfl (call_m (.tail (.tail (.tail (.tail .head)))) (fun w hw => deleteE1_c w _ _ _ A2_27 ((tcTo m es k).length) c2_27 es.length (tcTo m es k) p0 (p0 + 1) rfl (by omega) ⟨rfl, by omega⟩ (by omega) hw))) rfl rfl (kt0 rfl ?_)
          refine ct_first (k := (tcTo m es k).length - 1) (.cons (.head) (.cons (.head) (.cons (.head) (.cons (.head) (.cons (.head) (.cons (.head) (.nil))))))) fE_len (by omega) ?_
          refine wl_v (ov_assign rfl) rfl rfl rfl ?_
          refine wl_nil ?_
          refine ce_block ?_
          exact fun ac_ w_ hs_ => hR0 (k + 1) A55 c55 ⟨by omega, h55⟩ (by omega) ac_ w_ (hs_.weaken (.cons rfl (.cons rfl (.cons rfl (.cons rfl (.cons (congrArg (fun z => some (Value.slice A2_27 z es.length)) (show (((tcTo m es k).length) - 1) = ((tcTo m es (k + 1)).length) from (by rw [hln]))) (.nil)))))) (.consE (show row 65 2 A2_27 ((tcTo m es k).length - 1) (c2_27) (cells fE ((delX (tcTo m es k) p0).take ((tcTo m es k).length - 1))) = row 65 2 A2_27 ((tcTo m es (k + 1)).length) (c2_27) (cells fE (tcTo m es (k + 1))) by rw [hln, hst.nextX]) (.head) (.consE (show row 3 1 A55 (k + 1) (c55) (cells fI ((tcOut m es k) ++ ([u0]))) = row 3 1 A55 ((k + 1)) (c55) (cells fI (tcOut m es (k + 1))) by rw [tcOut_succ hst]) (.head) (.cons (.tail (.tail (.tail .head))) (.nil)))))
        ·
          refine wl_nil ?_
          refine ce_then ?_
          refine cw_false rfl ?_
          refine cw_exit ?_
          refine ce_then_exit ?_
          refine ce_then_exit ?_
          refine ce_hit ?_
          refine ce_then ?_
          refine cw_seq ?_
          refine cw_region ?_
          refine wl_v (ov_move rfl) rfl rfl rfl ?_
          refine wl_r (or_call (fv := []) (vs := [.slice A4 (k) (c4)]) (cs := []) en54 rfl rfl (call_v (fun w hw => clip_c w A4 k c4 (tcOut m es k) ((holds_row (List.Mem.tail _ (List.Mem.head _))) w hw) (tcOut_length _ _ _) hk2))) rfl rfl (kt0 rfl ?_)
          refine wl_v (ov_assign rfl) rfl rfl rfl ?_
          refine wl_v (ov_assign rfl) rfl rfl rfl ?_
          refine wl_nil ?_
          refine ce_then ?_
          refine cw_ret ?_
          refine ce_results (v := .tuple #[.slice A4 (k) (k), .bool true]) (res2 rfl (rv_t rfl) (rv_t rfl)) (fun w' hw => ?_)
          exact ⟨A4, k, c4, (by rw [hv]; show (tcOut m es (m - 2)).length ≤ _; rw [tcOut_length]; omega), (by rw [hv]; show _ = Value.tuple #[.slice _ (tcOut m es (m - 2)).length _, _]; rw [tcOut_length, show m - 2 = k from by omega]), ((.consE (show row 3 1 A4 (k) (c4) (cells fI (tcOut m es k)) = row 3 1 A4 ((codeP ((m : Nat) : Int) es).1.length) (c4) (cells fI ((codeP ((m : Nat) : Int) es).1)) by rw [hv]; show _ = row 3 1 _ (tcOut m es (m - 2)).length _ _; rw [tcOut_length, show m - 2 = k from by omega]) (.tail .head) (.nil) : Keep _ _).ss hw).to_new⟩
  ·
    refine wl_v (ov_not rfl) rfl rfl rfl ?_
    refine wl_v (ov_move rfl) rfl rfl rfl ?_
    refine wl_not rfl rfl rfl rfl rfl rfl ?_
    refine wl_not rfl rfl rfl rfl rfl rfl ?_
    refine wl_not rfl rfl rfl rfl rfl rfl ?_
    refine wl_v (ov_pick_t rfl rfl) rfl rfl rfl ?_
    refine wl_v (ov_move rfl) rfl rfl rfl ?_
    refine wl_not rfl rfl rfl rfl rfl rfl ?_
    refine wl_not rfl rfl rfl rfl rfl rfl ?_
    refine wl_not rfl rfl rfl rfl rfl rfl ?_
    refine wl_not rfl rfl rfl rfl rfl rfl ?_
    refine wl_not rfl rfl rfl rfl rfl rfl ?_
    refine wl_not rfl rfl rfl rfl rfl rfl ?_
    refine wl_not rfl rfl rfl rfl rfl rfl ?_
    refine wl_v (ov_pick_t rfl rfl) rfl rfl rfl ?_
    refine wl_nil ?_
    refine ce_then ?_
    refine cw_true rfl ?_
    refine cw_seq ?_
    have hv : codeP N es = ([], false) := if_neg (fun h => c9 ⟨h.1, h.2.2.2⟩)
    refine ct_none fI 3 1 ?_
    refine cw_region ?_
    refine wl_v (ov_assign rfl) rfl rfl rfl ?_
    refine wl_v (ov_assign rfl) rfl rfl rfl ?_
    refine wl_nil ?_
    refine ce_then ?_
    refine cw_ret ?_
    refine ce_then_ret ?_
    refine ce_results (v := .tuple #[.slice none (0) (0), .bool false]) (res2 rfl (rv_t rfl) (rv_t rfl)) (fun w' hw => ?_)
    exact ⟨none, 0, 0, (by rw [hv]; exact Nat.le_refl _), (by rw [hv] <;> rfl), ((.consE (show row 3 1 none (0) (0) (cells fI ([])) = row 3 1 none ((codeP N es).1.length) (0) (cells fI ((codeP N es).1)) by rw [hv] <;> rfl) (.head) (.nil) : Keep _ _).ss hw).to_new⟩
end Go.Proofs.Ytkkllkkjdbpjpaa.W45
