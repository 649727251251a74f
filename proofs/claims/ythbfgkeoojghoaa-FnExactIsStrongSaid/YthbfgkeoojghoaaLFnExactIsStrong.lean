/- Walks of functions of the given program: each returns what its Lean function says and leaves the memory that was there as it was. Conditions: those of each theorem. -/
import Derived.Test.YthbfgkeoojghoaaSm
import Derived.Test.YthbfgkeoojghoaaProg
import Derived.Test.YthbfgkeoojghoaaPl
import Derived.Test.YthbfgkeoojghoaaPo
import Derived.Test.YthbfgkeoojghoaaPd
import Derived.Test.YthbfgkeoojghoaaPe
import Derived.Test.YthbfgkeoojghoaaPh
import Derived.Test.YthbfgkeoojghoaaPm
import Derived.Test.YthbfgkeoojghoaaPc
import Derived.Test.YthbfgkeoojghoaaPs
import Derived.Test.YthbfgkeoojghoaaPt
import Derived.Test.YthbfgkeoojghoaaPu
import Derived.Test.YthbfgkeoojghoaaPv
import Derived.Test.YthbfgkeoojghoaaPw
import Derived.Test.YthbfgkeoojghoaaSo
import Derived.Test.YthbfgkeoojghoaaSh
import Derived.Test.YthbfgkeoojghoaaT
import Derived.Test.YthbfgkeoojghoaaW33
import Derived.Test.YthbfgkeoojghoaaW38
import Derived.KernelRfl
namespace Go.Proofs.Ythbfgkeoojghoaa.LFnExactIsStrong
open Go.Sx Go.RowKit Go.Proofs.Ythbfgkeoojghoaa.T Go.Proofs.Ythbfgkeoojghoaa.W33 Go.Proofs.Ythbfgkeoojghoaa.W38
open Go.Plain
set_option linter.unusedVariables false
set_option maxRecDepth 100000 in
theorem FnExactIsStrong_c (w : World) (A : Option Addr) (n : Nat) (c : Nat) (hs : List Hd) (xss : List (List Int)) (hA : At w A (cells fL hs)) (eA : xss.length = n) (lA : n ≤ c) (fA : NestF hs xss) (mA : Mx w hs xss) (hln : n ≤ 9223372036854775807) (hrz : ∀ r ∈ xss, r.length ≤ 9223372036854775807 ∧ ∀ x ∈ r, -9223372036854775808 ≤ x ∧ x ≤ 9223372036854775807) : Calls Try.prog 8 #[.slice A (n) (c)] w (Ret fun rv w' => rv = .bool true ∧ New w w' []) := by
  have oA := hA.atB
  subst eA
  have flA := fA.1
  have omA := Mx.atB mA
  have hbd : ∀ r ∈ xss, ∀ x ∈ r, -9223372036854775808 ≤ x ∧ x ≤ 9223372036854775807 := fun r hr => (hrz r hr).2
  refine fn_enter (args := [.slice A (xss.length) (c)]) Try.func8 rfl Try.ntmps8 rfl (SS.start w) ?_
  refine cw_seq ?_
  refine cw_region ?_
  refine wl_v (ov_assign rfl) rfl rfl rfl ?_
  refine wl_nil ?_
  refine ce_then ?_
  refine cw_seq ?_
  refine cw_region ?_
  refine wl_v (ov_assign rfl) rfl rfl rfl ?_
  refine wl_nil ?_
  refine ce_then ?_
  refine cw_seq ?_
  refine cw_region ?_
  refine wl_v (ov_move rfl) rfl rfl rfl ?_
  refine wl_v (ov_move rfl) rfl rfl rfl ?_
  refine wl_r (or_call (fv := []) (vs := [.slice A (xss.length) (c), .int .i64 (1048576)]) (cs := []) en38 rfl rfl (call_x1 (fun w hw => szIntSS_c w A xss.length c hs xss 1048576 ((holds_old oA) w hw) rfl lA fA ((mx_old omA) w hw) (by first | assumption | omega | (simp; omega)) (by first | assumption | omega | (simp; omega)) (by first | assumption | omega | (simp; omega))))) rfl rfl (kt1p rfl (fun v_9 h_9 => ?_))
  refine wl_v (ov_assign rfl) rfl rfl rfl ?_
  refine wl_nil ?_
  refine ce_then ?_
  refine cw_seq ?_
  refine cw_seq ?_
  refine cw_region ?_
  refine wl_v (ov_move rfl) rfl rfl rfl ?_
  refine wl_if (ov_lss rfl rfl) rfl rfl rfl (fun c11 => ?_) (fun c11 => ?_)
  ·
    refine wl_nil ?_
    refine ce_then ?_
    refine cw_true rfl ?_
    refine cw_seq ?_
    refine cw_region ?_
    refine wl_v (ov_assign rfl) rfl rfl rfl ?_
    refine wl_nil ?_
    refine ce_then ?_
    refine cw_ret ?_
    refine ce_then_ret ?_
    refine ce_results (v := .bool true) (res1 rfl (rv_t rfl)) (fun w' hw => ?_)
    exact ⟨rfl, (Keep.nil.ss hw).to_new⟩
  ·
    have hsz : xss.length ≤ 1048576 ∧ ∀ r ∈ xss, r.length ≤ 1048576 := h_9.resolve_left (by omega)
    refine wl_nil ?_
    refine ce_then ?_
    refine cw_false rfl ?_
    refine cw_skip ?_
    refine ce_then ?_
    refine cw_seq ?_
    refine cw_region ?_
    refine wl_v (ov_move rfl) rfl rfl rfl ?_
    refine wl_r (or_call (fv := []) (vs := [.slice A (xss.length) (c)]) (cs := []) en40 rfl rfl (call_x3 (fun w hw => toIntSS_c w A xss.length c hs xss ((holds_old oA) w hw) rfl lA fA ((mx_old omA) w hw) (by first | assumption | omega | (simp; omega))))) rfl rfl (kt3p rfl (fun A2_13 c2_13 hs2_13 h_13 => ?_))
    refine ct_fact (nest_facts (List.Mem.tail _ (List.Mem.head _))) (fun hnfns_13_1 => ?_)
    have hnfns_13_1l := hnfns_13_1.1
    refine wl_r (or_call (fv := []) (vs := [.slice A2_13 ((xss).length) (c2_13)]) (cs := []) en39 rfl rfl (call_v (fun w hw => IsStrongS_c w A2_13 ((xss).length) c2_13 hs2_13 xss ((holds_row (List.Mem.head _)) w hw) rfl h_13.1 hnfns_13_1 ((mx_nest (List.Mem.tail _ (List.Mem.head _))) w hw) (by first | assumption | omega | (simp; omega)) (by first | assumption | omega | (simp; omega))))) rfl rfl (kt_if rfl (fun c14 => ?_) (fun c14 => ?_))
    ·
      refine wl_v (ov_assign rfl) rfl rfl rfl ?_
      refine wl_nil ?_
      refine ce_then ?_
      refine cw_seq ?_
      refine cw_region ?_
      refine wl_v (ov_move rfl) rfl rfl rfl ?_
      refine wl_r (or_call (fv := []) (vs := [.slice A (xss.length) (c)]) (cs := []) en40 rfl rfl (call_x3 (fun w hw => toIntSS_c w A xss.length c hs xss ((holds_old oA) w hw) rfl lA fA ((mx_old omA) w hw) (by first | assumption | omega | (simp; omega))))) rfl rfl (kt3p rfl (fun A2_16 c2_16 hs2_16 h_16 => ?_))
      refine wl_v (ov_assign rfl) rfl rfl rfl ?_
      refine wl_nil ?_
      refine ce_then ?_
      refine cw_seq ?_
      refine cw_region ?_
      refine wl_v (ov_move rfl) rfl rfl rfl ?_
      refine ct_fact (nest_facts (List.Mem.tail _ (List.Mem.head _))) (fun hnfns_16_2 => ?_)
      have hnfns_16_2l := hnfns_16_2.1
      refine wl_r (or_call (fv := []) (vs := [.slice A2_16 ((xss).length) (c2_16)]) (cs := []) en41 rfl rfl (call_v (fun w hw => IsStrongI_c w A2_16 ((xss).length) c2_16 hs2_16 xss ((holds_row (List.Mem.head _)) w hw) rfl h_16.1 hnfns_16_2 ((mx_nest (List.Mem.tail _ (List.Mem.head _))) w hw) (by first | assumption | omega | (simp; omega))))) rfl rfl (kt_if rfl (fun c18 => ?_) (fun c18 => ?_))
      ·
        refine wl_v (ov_assign rfl) rfl rfl rfl ?_
        refine wl_nil ?_
        refine ce_then ?_
        refine cw_seq ?_
        refine cw_seq ?_
        refine cw_region ?_
        refine wl_v (ov_move rfl) rfl rfl rfl ?_
        refine wl_v (ov_move rfl) rfl rfl rfl ?_
        refine wl_v (ov_neqb uI4 rfl rfl) rfl rfl rfl ?_
        refine wl_nil ?_
        refine ce_then ?_
        refine cw_false rfl ?_
        refine cw_skip ?_
        refine ce_then ?_
        refine cw_seq ?_
        refine cw_seq ?_
        refine cw_region ?_
        refine wl_v (ov_move rfl) rfl rfl rfl ?_
        refine wl_v (ov_move rfl) rfl rfl rfl ?_
        refine wl_r (or_call (fv := []) (vs := [.slice A (xss.length) (c)]) (cs := []) en40 rfl rfl (call_x3 (fun w hw => toIntSS_c w A xss.length c hs xss ((holds_old oA) w hw) rfl lA fA ((mx_old omA) w hw) (by first | assumption | omega | (simp; omega))))) rfl rfl (kt3p rfl (fun A2_24 c2_24 hs2_24 h_24 => ?_))
        refine ct_fact (nest_facts (List.Mem.tail _ (List.Mem.tail _ (List.Mem.tail _ (List.Mem.head _))))) (fun hnfns_16_3 => ?_)
        have hnfns_16_3l := hnfns_16_3.1
        refine ct_fact (nest_facts (List.Mem.tail _ (List.Mem.head _))) (fun hnfns_24_4 => ?_)
        have hnfns_24_4l := hnfns_24_4.1
        refine wl_r (or_call (fv := []) (vs := [.slice A2_16 ((xss).length) (c2_16), .slice A2_24 ((xss).length) (c2_24)]) (cs := []) en35 rfl rfl (call_v (fun w hw => eqIntSS_c w A2_16 ((xss).length) c2_16 hs2_16 xss A2_24 ((xss).length) c2_24 hs2_24 xss ((holds_row (List.Mem.tail _ (List.Mem.tail _ (List.Mem.head _)))) w hw) rfl h_16.1 hnfns_16_3 ((mx_nest (List.Mem.tail _ (List.Mem.tail _ (List.Mem.tail _ (List.Mem.head _))))) w hw) ((holds_row (List.Mem.head _)) w hw) rfl h_24.1 hnfns_24_4 ((mx_nest (List.Mem.tail _ (List.Mem.head _))) w hw) (by first | assumption | omega | (simp; omega))))) rfl rfl (kt_if rfl (fun c25 => ?_) (fun c25 => ?_))
        ·
          refine wl_v (ov_not rfl) rfl rfl rfl ?_
          refine wl_nil ?_
          refine ce_then ?_
          refine cw_false rfl ?_
          refine cw_skip ?_
          refine ce_then ?_
          refine cw_seq ?_
          refine cw_region ?_
          refine wl_v (ov_assign rfl) rfl rfl rfl ?_
          refine wl_nil ?_
          refine ce_then ?_
          refine cw_ret ?_
          refine ce_results (v := .bool true) (res1 rfl (rv_t rfl)) (fun w' hw => ?_)
          exact ⟨rfl, (Keep.nil.ss hw).to_new⟩
        ·
          first | (exfalso; omega) | exact absurd rfl c25 | exact absurd (by simp) c25 | (exfalso; simp at c25; omega) | exact absurd ⟨rfl, rfl⟩ c25
      ·
        exact absurd c14 c18
    ·
      refine wl_v (ov_assign rfl) rfl rfl rfl ?_
      refine wl_nil ?_
      refine ce_then ?_
      refine cw_seq ?_
      refine cw_region ?_
      refine wl_v (ov_move rfl) rfl rfl rfl ?_
      refine wl_r (or_call (fv := []) (vs := [.slice A (xss.length) (c)]) (cs := []) en40 rfl rfl (call_x3 (fun w hw => toIntSS_c w A xss.length c hs xss ((holds_old oA) w hw) rfl lA fA ((mx_old omA) w hw) (by first | assumption | omega | (simp; omega))))) rfl rfl (kt3p rfl (fun A2_16 c2_16 hs2_16 h_16 => ?_))
      refine wl_v (ov_assign rfl) rfl rfl rfl ?_
      refine wl_nil ?_
      refine ce_then ?_
      refine cw_seq ?_
      refine cw_region ?_
      refine wl_v (ov_move rfl) rfl rfl rfl ?_
      refine ct_fact (nest_facts (List.Mem.tail _ (List.Mem.head _))) (fun hnfns_16_5 => ?_)
      have hnfns_16_5l := hnfns_16_5.1
      refine wl_r (or_call (fv := []) (vs := [.slice A2_16 ((xss).length) (c2_16)]) (cs := []) en41 rfl rfl (call_v (fun w hw => IsStrongI_c w A2_16 ((xss).length) c2_16 hs2_16 xss ((holds_row (List.Mem.head _)) w hw) rfl h_16.1 hnfns_16_5 ((mx_nest (List.Mem.tail _ (List.Mem.head _))) w hw) (by first | assumption | omega | (simp; omega))))) rfl rfl (kt_if rfl (fun c18 => ?_) (fun c18 => ?_))
      ·
        exact absurd c18 c14
      ·
        refine wl_v (ov_assign rfl) rfl rfl rfl ?_
        refine wl_nil ?_
        refine ce_then ?_
        refine cw_seq ?_
        refine cw_seq ?_
        refine cw_region ?_
        refine wl_v (ov_move rfl) rfl rfl rfl ?_
        refine wl_v (ov_move rfl) rfl rfl rfl ?_
        refine wl_v (ov_neqb uI4 rfl rfl) rfl rfl rfl ?_
        refine wl_nil ?_
        refine ce_then ?_
        refine cw_false rfl ?_
        refine cw_skip ?_
        refine ce_then ?_
        refine cw_seq ?_
        refine cw_seq ?_
        refine cw_region ?_
        refine wl_v (ov_move rfl) rfl rfl rfl ?_
        refine wl_v (ov_move rfl) rfl rfl rfl ?_
        refine wl_r (or_call (fv := []) (vs := [.slice A (xss.length) (c)]) (cs := []) en40 rfl rfl (call_x3 (fun w hw => toIntSS_c w A xss.length c hs xss ((holds_old oA) w hw) rfl lA fA ((mx_old omA) w hw) (by first | assumption | omega | (simp; omega))))) rfl rfl (kt3p rfl (fun A2_24 c2_24 hs2_24 h_24 => ?_))
        refine ct_fact (nest_facts (List.Mem.tail _ (List.Mem.tail _ (List.Mem.tail _ (List.Mem.head _))))) (fun hnfns_16_6 => ?_)
        have hnfns_16_6l := hnfns_16_6.1
        refine ct_fact (nest_facts (List.Mem.tail _ (List.Mem.head _))) (fun hnfns_24_7 => ?_)
        have hnfns_24_7l := hnfns_24_7.1
        refine wl_r (or_call (fv := []) (vs := [.slice A2_16 ((xss).length) (c2_16), .slice A2_24 ((xss).length) (c2_24)]) (cs := []) en35 rfl rfl (call_v (fun w hw => eqIntSS_c w A2_16 ((xss).length) c2_16 hs2_16 xss A2_24 ((xss).length) c2_24 hs2_24 xss ((holds_row (List.Mem.tail _ (List.Mem.tail _ (List.Mem.head _)))) w hw) rfl h_16.1 hnfns_16_6 ((mx_nest (List.Mem.tail _ (List.Mem.tail _ (List.Mem.tail _ (List.Mem.head _))))) w hw) ((holds_row (List.Mem.head _)) w hw) rfl h_24.1 hnfns_24_7 ((mx_nest (List.Mem.tail _ (List.Mem.head _))) w hw) (by first | assumption | omega | (simp; omega))))) rfl rfl (kt_if rfl (fun c25 => ?_) (fun c25 => ?_))
        ·
          refine wl_v (ov_not rfl) rfl rfl rfl ?_
          refine wl_nil ?_
          refine ce_then ?_
          refine cw_false rfl ?_
          refine cw_skip ?_
          refine ce_then ?_
          refine cw_seq ?_
          refine cw_region ?_
          refine wl_v (ov_assign rfl) rfl rfl rfl ?_
          refine wl_nil ?_
          refine ce_then ?_
          refine cw_ret ?_
          refine ce_results (v := .bool true) (res1 rfl (rv_t rfl)) (fun w' hw => ?_)
          exact ⟨rfl, (Keep.nil.ss hw).to_new⟩
        ·
          first | (exfalso; omega) | exact absurd rfl c25 | exact absurd (by simp) c25 | (exfalso; simp at c25; omega) | exact absurd ⟨rfl, rfl⟩ c25
end Go.Proofs.Ythbfgkeoojghoaa.LFnExactIsStrong
