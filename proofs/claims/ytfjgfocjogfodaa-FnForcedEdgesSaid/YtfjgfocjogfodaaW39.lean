/- Walks of functions of the given program: each returns what its Lean function says and leaves the memory that was there as it was. Conditions: those of each theorem. -/
import Derived.Test.YtfjgfocjogfodaaSm
import Derived.Test.YtfjgfocjogfodaaProg
import Derived.Test.YtfjgfocjogfodaaPl
import Derived.Test.YtfjgfocjogfodaaPo
import Derived.Test.YtfjgfocjogfodaaPd
import Derived.Test.YtfjgfocjogfodaaPe
import Derived.Test.YtfjgfocjogfodaaPh
import Derived.Test.YtfjgfocjogfodaaPm
import Derived.Test.YtfjgfocjogfodaaPc
import Derived.Test.YtfjgfocjogfodaaPs
import Derived.Test.YtfjgfocjogfodaaPt
import Derived.Test.YtfjgfocjogfodaaPu
import Derived.Test.YtfjgfocjogfodaaPv
import Derived.Test.YtfjgfocjogfodaaPw
import Derived.Test.YtfjgfocjogfodaaT
import Derived.Test.YtfjgfocjogfodaaW2
import Derived.Test.YtfjgfocjogfodaaW5
import Derived.Test.YtfjgfocjogfodaaW11
import Derived.Test.YtfjgfocjogfodaaW17
import Derived.Test.YtfjgfocjogfodaaW18
import Derived.Test.YtfjgfocjogfodaaW19
import Derived.Test.YtfjgfocjogfodaaW22
import Derived.Test.YtfjgfocjogfodaaW37
import Derived.KernelRfl
namespace Go.Proofs.Ytfjgfocjogfodaa.W39
open Go.Sx Go.RowKit Go.Proofs.Ytfjgfocjogfodaa.T Go.Proofs.Ytfjgfocjogfodaa.W2 Go.Proofs.Ytfjgfocjogfodaa.W5 Go.Proofs.Ytfjgfocjogfodaa.W11 Go.Proofs.Ytfjgfocjogfodaa.W17 Go.Proofs.Ytfjgfocjogfodaa.W18 Go.Proofs.Ytfjgfocjogfodaa.W19 Go.Proofs.Ytfjgfocjogfodaa.W22 Go.Proofs.Ytfjgfocjogfodaa.W37
open Go.Plain
set_option linter.unusedVariables false
set_option maxRecDepth 100000 in
theorem forc11_c (w : World) (N : Int) (A : Option Addr) (n : Nat) (c : Nat) (es : List (Int × Int)) (g1 : Nat) (g2 : Nat) (a : Int) (b : Int) (hA : At w A (cells fE es)) (eA : es.length = n) (lA : n ≤ c) (hg1 : At w (some ⟨g1, 0, none⟩) [.int .i64 (a)]) (hg2 : At w (some ⟨g2, 0, none⟩) [.int .i64 (b)]) (hs : es.length ≤ 1048576) : Calls Try.prog 58 #[.agg #[.int .i64 (N), .slice A (n) (c)], elp (some ⟨g1, 0, none⟩) (0), elp (some ⟨g2, 0, none⟩) (0)] w (Ret fun rv w' => rv = .bool (!decide ((min a b, max a b) ∈ es)) ∧ New w w' []) := by
  have oA := hA.atB
  subst eA
  have og1 := hg1.atB
  have og2 := hg2.atB
  refine fn_enter (args := [.agg #[.int .i64 (N), .slice A (es.length) (c)], elp (some ⟨g1, 0, none⟩) (0), elp (some ⟨g2, 0, none⟩) (0)]) Try.func58 rfl Try.ntmps58 rfl (SS.start w) ?_
  refine cw_seq ?_
  refine cw_region ?_
  refine wl_r (or_box rfl rfl) rfl rfl (kt1 rfl (fun g3 => ?_))
  refine wl_v (ov_assign rfl) rfl rfl rfl ?_
  refine wl_nil ?_
  refine ce_then ?_
  refine cw_seq ?_
  refine cw_region ?_
  refine wl_v (ov_loadAgg (vs := [.int .i64 (N), .slice A (es.length) (c)]) tI25 (holds_blk (List.Mem.head _)) rfl some_lit rfl rfl) rfl rfl rfl ?_
  refine wl_v (ov_load tI3 (holds_old og1) rfl rfl) rfl rfl rfl ?_
  refine wl_v (ov_load tI3 (holds_old og2) rfl rfl) rfl rfl rfl ?_
  refine wl_r (or_call (fv := []) (vs := [.agg #[.int .i64 (N), .slice A (es.length) (c)], .int .i64 (a), .int .i64 (b)]) (cs := []) en59 rfl rfl (call_v (fun w hw => has_c w N A es.length c es a b ((holds_old oA) w hw) rfl lA (by first | assumption | omega | (simp; omega))))) rfl rfl (kt_if rfl (fun c8 => ?_) (fun c8 => ?_))
  ·
    refine wl_v (ov_not rfl) rfl rfl rfl ?_
    refine wl_v (ov_assign rfl) rfl rfl rfl ?_
    refine wl_nil ?_
    refine ce_then ?_
    refine cw_ret ?_
    refine ce_results (v := .bool false) (res1 rfl (rv_t rfl)) (fun w' hw => ?_)
    exact ⟨(by rw [decide_eq_true c8]; rfl), (Keep.nil.ss hw).to_new⟩
  ·
    refine wl_v (ov_not rfl) rfl rfl rfl ?_
    refine wl_v (ov_assign rfl) rfl rfl rfl ?_
    refine wl_nil ?_
    refine ce_then ?_
    refine cw_ret ?_
    refine ce_results (v := .bool true) (res1 rfl (rv_t rfl)) (fun w' hw => ?_)
    exact ⟨(by rw [decide_eq_false c8]; rfl), (Keep.nil.ss hw).to_new⟩
set_option maxRecDepth 100000 in
theorem forc1_c (w : World) (a : Int) (b : Int) (g1 : Nat) (Ao : Option Addr) (no : Nat) (co : Nat) (m : Nat) (hs : List Hd) (xss : List (List Ed)) (hg1 : At w (some ⟨g1, 0, none⟩) [.slice Ao (no) (co)]) (hAo : At w Ao (cells fG (gsOf m hs))) (hmx : ∀ i, i < xss.length → At w (hs.getD i (none, 0, 0)).1 (cells fE (xss.getD i []))) (hnf : NestF hs xss) (hno : no = xss.length) (lo : no ≤ co) (hsz : ∀ i, i < xss.length → (xss.getD i []).length ≤ 1048576) (hl4 : xss.length ≤ 4000000) : Calls Try.prog 56 #[.int .i64 (a), .int .i64 (b), elp (some ⟨g1, 0, none⟩) (0)] w (Ret fun rv w' => rv = .bool ((List.range xss.length).all fun i => decide ((min a b, max a b) ∈ xss.getD i [])) ∧ New w w' []) := by
  have og1 := hg1.atB
  have oAo := hAo.atB
  have hgl : (gsOf m hs).length = xss.length := by rw [gsOf_length]; exact hnf.1
  have omx := fun i hi => (hmx i hi).atB
  refine fn_enter (args := [.int .i64 (a), .int .i64 (b), elp (some ⟨g1, 0, none⟩) (0)]) Try.func56 rfl Try.ntmps56 rfl (SS.start w) ?_
  refine cw_seq ?_
  refine cw_region ?_
  refine wl_r (or_box rfl rfl) rfl rfl (kt1 rfl (fun g3 => ?_))
  refine wl_r (or_box rfl rfl) rfl rfl (kt1 rfl (fun g4 => ?_))
  refine wl_v (ov_assign rfl) rfl rfl rfl ?_
  refine wl_nil ?_
  refine ce_then ?_
  refine cw_seq ?_
  refine cw_region ?_
  refine wl_v (ov_load tI38 (holds_old og1) rfl rfl) rfl rfl rfl ?_
  refine wl_v (ov_makeFunc (vs := #[elp (some ⟨g3, 0, none⟩) (0), elp (some ⟨g4, 0, none⟩) (0)]) rfl) rfl rfl rfl ?_
  refine wl_r (or_call (fv := []) (vs := [.slice Ao (no) (co), .func (.func 58) #[] #[elp (some ⟨g3, 0, none⟩) (0), elp (some ⟨g4, 0, none⟩) (0)]]) (cs := []) en57 rfl rfl (call_v (fun w hw => containsFuncG_c w Ao no co (gsOf m hs) 58 ([elp (some ⟨g3, 0, none⟩) (0), elp (some ⟨g4, 0, none⟩) (0)]) (fun i => !decide ((min a b, max a b) ∈ xss.getD i [])) ((holds_old oAo) w hw) (by rw [hgl, hno]) lo (by rw [hgl]; omega) en58 (fun i hi w' hb => by have hga := gs_at (m := m) hnf (show i < xss.length from hgl ▸ hi); unfold fG at hga; injection hga with ha1 ha2; injection ha2 with ha2 _; rw [ha1, ha2]; exact forc11_c w' ((m : Nat) : Int) (hs.getD i (none, 0, 0)).1 (xss.getD i []).length (hs.getD i (none, 0, 0)).2.2 (xss.getD i []) g3 g4 a b ((holds_old (omx i (hgl ▸ hi))) w' (hw.later hb)) rfl (hnf.2 i (hgl ▸ hi)).2 ((holds_blk (List.Mem.tail _ (List.Mem.head _))) w' (hw.later hb)) ((holds_blk (List.Mem.head _)) w' (hw.later hb)) (hsz i (hgl ▸ hi)))))) rfl rfl (kt_if rfl (fun c8 => ?_) (fun c8 => ?_))
  ·
    refine wl_v (ov_not rfl) rfl rfl rfl ?_
    refine wl_v (ov_assign rfl) rfl rfl rfl ?_
    refine wl_nil ?_
    refine ce_then ?_
    refine cw_ret ?_
    refine ce_results (v := .bool false) (res1 rfl (rv_t rfl)) (fun w' hw => ?_)
    exact ⟨(by obtain ⟨i, hi, hp⟩ := c8; have h9 : (List.range xss.length).all (fun i => decide ((min a b, max a b) ∈ xss.getD i [])) = false := (by rw [List.all_eq_false]; exact ⟨i, List.mem_range.2 (hgl ▸ hi), by simpa using hp⟩); rw [h9]), (Keep.nil.ss hw).to_new⟩
  ·
    refine wl_v (ov_not rfl) rfl rfl rfl ?_
    refine wl_v (ov_assign rfl) rfl rfl rfl ?_
    refine wl_nil ?_
    refine ce_then ?_
    refine cw_ret ?_
    refine ce_results (v := .bool true) (res1 rfl (rv_t rfl)) (fun w' hw => ?_)
    exact ⟨(by have h9 : (List.range xss.length).all (fun i => decide ((min a b, max a b) ∈ xss.getD i [])) = true := (by rw [List.all_eq_true]; intro i hi; by_cases hq : (min a b, max a b) ∈ xss.getD i []; exact decide_eq_true hq; exact absurd ⟨i, hgl.symm ▸ List.mem_range.1 hi, by simpa using hq⟩ c8); rw [h9]), (Keep.nil.ss hw).to_new⟩
set_option maxRecDepth 100000 in
theorem ForcI_c (w : World) (A : Option Addr) (n : Nat) (c : Nat) (xs : List (Int)) (hA : At w A (cells fI xs)) (eA : xs.length = n) (lA : n ≤ c) (hs : xs.length ≤ 1048576) : Calls Try.prog 18 #[.slice A (n) (c)] w (Ret fun rv w' => ∃ A2 k2 c2, ((forcV xs).length ≤ k2) ∧ rv = .slice A2 ((forcV xs).length) (k2) ∧ New w w' [row 43 2 A2 ((forcV xs).length) (c2) (cells fE (forcV xs))]) := by
  have oA := hA.atB
  subst eA
  have hal := allV_len xs
  refine fn_enter (args := [.slice A (xs.length) (c)]) Try.func18 rfl Try.ntmps18 rfl (SS.start w) ?_
  refine cw_seq ?_
  refine cw_region ?_
  refine wl_v (ov_assign rfl) rfl rfl rfl ?_
  refine wl_nil ?_
  refine ce_then ?_
  refine cw_seq ?_
  refine cw_region ?_
  refine wl_v (ov_move rfl) rfl rfl rfl ?_
  refine wl_r (or_call (fv := []) (vs := [.slice A (xs.length) (c)]) (cs := []) en22 rfl rfl (call_x3 (fun w hw => allReal_c w A xs.length c xs ((holds_old oA) w hw) rfl lA (by first | assumption | omega | (simp; omega))))) rfl rfl (kt3p rfl (fun A2_5 c2_5 hs_5 h_5 => ?_))
  refine ct_fact (nest_facts (List.Mem.tail _ (List.Mem.head _))) (fun hnfz => ?_)
  refine wl_r (or_alloc tI38 rfl) rfl rfl (kt1 rfl (fun g3 => ?_))
  refine wl_r0 (or_store_blk (vs := [.slice A2_5 ((allV xs).length) ((allV xs).length)]) (cs' := [.slice A2_5 ((allV xs).length) ((allV xs).length)]) (.head) tI38 rfl rfl rfl rfl (Nat.le_of_ble_eq_true rfl) rfl) rfl rfl (kn0 ?_)
  refine wl_nil ?_
  refine ce_then ?_
  refine cw_seq ?_
  refine cw_seq ?_
  refine cw_region ?_
  refine wl_v (ov_load tI38 (holds_blk (List.Mem.head _)) rfl rfl) rfl rfl rfl ?_
  refine wl_v (ov_len (sliceI_spec sI38) rfl) rfl rfl rfl ?_
  refine wl_if (ov_eql rfl rfl) rfl rfl rfl (fun c8 => ?_) (fun c8 => ?_)
  ·
    have hv : forcV xs = [] := if_neg (by omega)
    refine ct_none fE 43 2 ?_
    refine wl_nil ?_
    refine ce_then ?_
    refine cw_true rfl ?_
    refine cw_seq ?_
    refine cw_region ?_
    refine wl_v (ov_assign rfl) rfl rfl rfl ?_
    refine wl_nil ?_
    refine ce_then ?_
    refine cw_ret ?_
    refine ce_then_ret ?_
    refine ce_results (v := .slice none (0) (0)) (res1 rfl (rv_t rfl)) (fun w' hw => ?_)
    exact ⟨none, 0, 0, (by rw [hv]; exact Nat.le_refl _), (by rw [hv] <;> rfl), ((.consE (show row 43 2 none (0) (0) (cells fE ([])) = row 43 2 none ((forcV xs).length) (0) (cells fE (forcV xs)) by rw [hv] <;> rfl) (.head) (.nil) : Keep _ _).ss hw).to_new⟩
  ·
    have h5 : xs.length ≤ 5 := by by_cases h : xs.length ≤ 5; exact h; exact absurd (by rw [show allV xs = [] from if_neg (fun h2 => h h2.2)]; rfl) c8
    have hv : forcV xs = (prs xs.length).filter (forcB xs) := if_pos (by omega)
    have hfb : ∀ x : Ed, forcB xs x = (List.range (allV xs).length).all fun i => decide (x ∈ (allV xs).getD i []) := fun x => by rw [Bool.eq_iff_iff, forcB_iff, List.all_eq_true]; exact ⟨fun h i hi => decide_eq_true (h i (List.mem_range.1 hi)), fun h i hi => of_decide_eq_true (h i (List.mem_range.2 hi))⟩
    refine wl_nil ?_
    refine ce_then ?_
    refine cw_false rfl ?_
    refine cw_skip ?_
    refine ce_then ?_
    refine cw_seq ?_
    refine cw_region ?_
    refine wl_v (ov_move rfl) rfl rfl rfl ?_
    refine wl_v (ov_len (sliceI_spec sI31) rfl) rfl rfl rfl ?_
    refine wl_v (ov_makeFunc (vs := #[elp (some ⟨g3, 0, none⟩) (0)]) rfl) rfl rfl rfl ?_
    refine wl_r (or_call (fv := []) (vs := [.int .i64 (((xs.length : Nat) : Int)), .func (.func 56) #[] #[elp (some ⟨g3, 0, none⟩) (0)]]) (cs := []) en55 rfl rfl (call_x2 (fun w hw => which_c w xs.length 56 ([elp (some ⟨g3, 0, none⟩) (0)]) (forcB xs) (by omega) en56 (fun x hx w' hb => by have h9 := mem_prs.1 hx; have e9 : (min x.1 x.2, max x.1 x.2) = x := Prod.ext (by simp; omega) (by simp; omega); have h8 := forc1_c w' x.1 x.2 g3 A2_5 (allV xs).length (allV xs).length xs.length hs_5 (allV xs) ((holds_blk (List.Mem.head _)) w' (hw.later hb)) ((holds_row (List.Mem.tail _ (List.Mem.head _))) w' (hw.later hb)) (fun i hi => (holds_nest (List.Mem.tail _ (List.Mem.tail _ (List.Mem.head _))) hi) w' (hw.later hb)) hnfz rfl (Nat.le_refl _) (fun i hi => by have := (allV_gr hi).len21 (by omega); omega) hal; rw [e9, ← hfb x] at h8; exact h8)))) rfl rfl (kt2p rfl (fun A2_12 c2_12 h_12 => ?_))
    refine wl_v (ov_field (v0 := .agg #[.int .i64 (((xs.length : Nat) : Int)), .slice A2_12 (((prs xs.length).filter (forcB xs)).length) (((prs xs.length).filter (forcB xs)).length)]) (v := .slice A2_12 (((prs xs.length).filter (forcB xs)).length) (((prs xs.length).filter (forcB xs)).length)) rfl (fun _ => by kernel_rfl)) rfl rfl rfl ?_
    refine wl_v (ov_assign rfl) rfl rfl rfl ?_
    refine wl_nil ?_
    refine ce_then ?_
    refine cw_ret ?_
    refine ce_results (v := .slice A2_12 (((prs xs.length).filter (forcB xs)).length) (((prs xs.length).filter (forcB xs)).length)) (res1 rfl (rv_t rfl)) (fun w' hw => ?_)
    exact ⟨A2_12, (forcV xs).length, c2_12, (Nat.le_refl _), (by rw [hv]), ((.consE (show row 43 2 A2_12 (((prs xs.length).filter (forcB xs)).length) (c2_12) (cells fE ((prs xs.length).filter (forcB xs))) = row 43 2 A2_12 ((forcV xs).length) (c2_12) (cells fE (forcV xs)) by rw [hv]) (.head) (.nil) : Keep _ _).ss hw).to_new⟩
set_option maxRecDepth 100000 in
theorem HasEdgeI_c (w : World) (N : Int) (A : Option Addr) (n : Nat) (c : Nat) (es : List (Int × Int)) (a : Int) (b : Int) (hA : At w A (cells fE es)) (eA : es.length = n) (lA : n ≤ c) (hs : es.length ≤ 1048576) (hN : N ≤ 9223372036854775807) : Calls Try.prog 24 #[.agg #[.int .i64 (N), .slice A (n) (c)], .int .i64 (a), .int .i64 (b)] w (Ret fun rv w' => rv = .bool (decide (ValidG N es ∧ (min a b, max a b) ∈ es)) ∧ New w w' []) := by
  have oA := hA.atB
  subst eA
  refine fn_enter (args := [.agg #[.int .i64 (N), .slice A (es.length) (c)], .int .i64 (a), .int .i64 (b)]) Try.func24 rfl Try.ntmps24 rfl (SS.start w) ?_
  refine cw_seq ?_
  refine cw_region ?_
  refine wl_r (or_box rfl rfl) rfl rfl (kt1 rfl (fun g3 => ?_))
  refine wl_v (ov_assign rfl) rfl rfl rfl ?_
  refine wl_nil ?_
  refine ce_then ?_
  refine cw_seq ?_
  refine cw_region ?_
  refine wl_v (ov_loadAgg (vs := [.int .i64 (N), .slice A (es.length) (c)]) tI25 (holds_blk (List.Mem.head _)) rfl some_lit rfl rfl) rfl rfl rfl ?_
  refine wl_r (or_call (fv := []) (vs := [.agg #[.int .i64 (N), .slice A (es.length) (c)]]) (cs := []) en12 rfl rfl (call_v (fun w hw => validGraphI_c w N A es.length c es ((holds_old oA) w hw) rfl lA (by first | assumption | omega | (simp; omega)) (by first | assumption | omega | (simp; omega))))) rfl rfl (kt_if rfl (fun c8 => ?_) (fun c8 => ?_))
  ·
    refine wl_v (ov_move rfl) rfl rfl rfl ?_
    refine wl_go rfl rfl ?_
    refine wl_v (ov_loadAgg (vs := [.int .i64 (N), .slice A (es.length) (c)]) tI25 (holds_blk (List.Mem.head _)) rfl some_lit rfl rfl) rfl rfl rfl ?_
    refine wl_go rfl rfl ?_
    refine wl_v (ov_move rfl) rfl rfl rfl ?_
    refine wl_go rfl rfl ?_
    refine wl_v (ov_move rfl) rfl rfl rfl ?_
    refine wl_go rfl rfl ?_
    refine wl_r (or_call (fv := []) (vs := [.agg #[.int .i64 (N), .slice A (es.length) (c)], .int .i64 (a), .int .i64 (b)]) (cs := []) en59 rfl rfl (call_v (fun w hw => has_c w N A es.length c es a b ((holds_old oA) w hw) rfl lA (by first | assumption | omega | (simp; omega))))) rfl rfl (kt_if rfl (fun c13 => ?_) (fun c13 => ?_))
    ·
      refine wl_v (ov_pick_t rfl rfl) rfl rfl rfl ?_
      refine wl_v (ov_assign rfl) rfl rfl rfl ?_
      refine wl_nil ?_
      refine ce_then ?_
      refine cw_ret ?_
      refine ce_results (v := .bool true) (res1 rfl (rv_t rfl)) (fun w' hw => ?_)
      exact ⟨(bt ⟨c8, c13⟩), (Keep.nil.ss hw).to_new⟩
    ·
      refine wl_v (ov_pick_t rfl rfl) rfl rfl rfl ?_
      refine wl_v (ov_assign rfl) rfl rfl rfl ?_
      refine wl_nil ?_
      refine ce_then ?_
      refine cw_ret ?_
      refine ce_results (v := .bool false) (res1 rfl (rv_t rfl)) (fun w' hw => ?_)
      exact ⟨(bf (fun h => c13 h.2)), (Keep.nil.ss hw).to_new⟩
  ·
    refine wl_v (ov_move rfl) rfl rfl rfl ?_
    refine wl_not rfl rfl rfl rfl rfl rfl ?_
    refine wl_not rfl rfl rfl rfl rfl rfl ?_
    refine wl_not rfl rfl rfl rfl rfl rfl ?_
    refine wl_not rfl rfl rfl rfl rfl rfl ?_
    refine wl_v (ov_pick_f rfl rfl) rfl rfl rfl ?_
    refine wl_v (ov_assign rfl) rfl rfl rfl ?_
    refine wl_nil ?_
    refine ce_then ?_
    refine cw_ret ?_
    refine ce_results (v := .bool false) (res1 rfl (rv_t rfl)) (fun w' hw => ?_)
    exact ⟨(bf (fun h => c8 h.1)), (Keep.nil.ss hw).to_new⟩
set_option maxRecDepth 100000 in
theorem allHave_c (w w0 : World) (Bd : Nat) (F : List Ent) (m : Nat) (A : Option Addr) (k0 : Nat) (c0 : Nat) (c1 : Nat) (hs : List Hd) (xss : List (List Ed)) (lc : k0 ≤ c1) (ek : xss.length = k0) (eh : hs.length = xss.length) (hm : m ≤ 7) (hG : ∀ g ∈ xss, Gr m g) (hk0 : k0 ≤ 4000000) (hss : SS w0 Bd ((row 25 2 A (k0) (c0) (cells fG (gsOf m hs))) :: (nest 43 2 fE hs xss) :: F) w) : Calls Try.prog 61 #[.slice A (k0) (c1), .int .i64 (((m : Nat) : Int))] w (Ret fun rv w' => ∃ A2 c2, ((haveTo xss m ((prs m).length)).length ≤ c2) ∧ rv = .slice A2 ((haveTo xss m ((prs m).length)).length) (c2) ∧ SS w0 Bd ((row 43 2 A2 ((haveTo xss m ((prs m).length)).length) (c2) (cells fE (haveTo xss m ((prs m).length)))) :: (row 25 2 A (k0) (c0) (cells fG (gsOf m hs))) :: (nest 43 2 fE hs xss) :: F) w') := by
  have hpl := prs_len (n := m) (by omega)
  have hgl : (gsOf m hs).length = xss.length := by rw [gsOf_length]; exact eh
  refine fn_enter (args := [.slice A (k0) (c1), .int .i64 (((m : Nat) : Int))]) Try.func61 rfl Try.ntmps61 rfl hss ?_
  refine cw_seq ?_
  refine cw_region ?_
  refine wl_v (ov_assign rfl) rfl rfl rfl ?_
  refine wl_nil ?_
  refine ce_then ?_
  refine cw_seq ?_
  refine cw_region ?_
  refine wl_r (or_buildSlice (e := 43) (size := 2) (is := []) (vs := []) (cs := cells fE ([])) rfl rfl rfl (by decide) (fun _ => by kernel_rfl)) rfl rfl (kt1 rfl (fun g10 => ?_))
  refine wl_v (ov_assign rfl) rfl rfl rfl ?_
  refine wl_nil ?_
  refine ce_then ?_
  refine cw_seq ?_
  refine cw_region ?_
  refine wl_v (ov_move rfl) rfl rfl rfl ?_
  refine wl_r (or_call (fv := []) (vs := [.int .i64 (((m : Nat) : Int))]) (cs := []) en112 rfl rfl (call_x2 (fun w hw => pairsS_c w m (by first | assumption | omega | (simp; omega))))) rfl rfl (kt2p rfl (fun A2_12 c2_12 h_12 => ?_))
  refine wl_v (ov_assign rfl) rfl rfl rfl ?_
  refine wl_nil ?_
  refine ce_then ?_
  refine cw_seq ?_
  refine cw_seq ?_
  refine cw_region ?_
  refine wl_v (ov_assign rfl) rfl rfl rfl ?_
  refine wl_nil ?_
  refine ce_then ?_
  refine cw_block ?_
  refine cw_loop3 (fun (k : Nat) (A2 : Option Addr) (c2 : Nat) => [(0, .slice A (k0) (c1)), (4, .slice none (0) (0)), (6, .slice A2_12 ((prs m).length) (c2_12)), (5, .slice A2 ((haveTo xss m k).length) (c2)), (7, .int .i64 (((k : Nat) : Int)))]) (fun (k : Nat) (A2 : Option Addr) (c2 : Nat) => (row 43 2 A2_12 ((prs m).length) (c2_12) (cells fE (prs m))) :: (row 43 2 A2 ((haveTo xss m k).length) (c2) (cells fE (haveTo xss m k))) :: (row 25 2 A (k0) (c0) (cells fG (gsOf m hs))) :: (nest 43 2 fE hs xss) :: F) (fun (k : Nat) (A2 : Option Addr) (c2 : Nat) => k ≤ (prs m).length ∧ (haveTo xss m k).length ≤ c2) (fun (k : Nat) (A2 : Option Addr) (c2 : Nat) => (prs m).length - k) 0 (some ⟨g10, 0, none⟩) 0 ⟨by omega, Nat.le_refl _⟩ (.cons rfl (.cons rfl (.cons rfl (.cons rfl (.cons (congrArg (fun z => some (Value.int .i64 z)) (show 0 = ((0 : Nat) : Int) by first | omega | rfl | (simp; done))) (.nil)))))) (.cons (.head) (.consE (show row 43 2 (some ⟨g10, 0, none⟩) (0) (0) (cells fE ([])) = row 43 2 (some ⟨g10, 0, none⟩) ((haveTo xss m 0).length) (0) (cells fE (haveTo xss m 0)) by rfl) (.head) (.cons (.head) (.cons (.head) (.refl))))) ?_
  intro R0 k A2 c2 hk hR0
  obtain ⟨hk1, hk2⟩ := hk
  have hcl := haveTo_len xss m k
  refine cw_seq ?_
  refine cw_seq ?_
  refine cw_region ?_
  refine wl_v (ov_move rfl) rfl rfl rfl ?_
  refine wl_v (ov_move rfl) rfl rfl rfl ?_
  refine wl_v (ov_len (sliceI_spec sI23) rfl) rfl rfl rfl ?_
  refine wl_if (ov_lss rfl rfl) rfl rfl rfl (fun c16 => ?_) (fun c16 => ?_)
  ·
    refine wl_nil ?_
    refine ce_then ?_
    refine cw_true rfl ?_
    refine cw_skip ?_
    refine ce_then ?_
    refine cw_seq ?_
    refine cw_block ?_
    refine cw_seq ?_
    refine cw_region ?_
    refine wl_v (ov_move rfl) rfl rfl rfl ?_
    refine wl_v (ov_len (sliceI_spec sI38) rfl) rfl rfl rfl ?_
    refine wl_if (ov_gtr rfl rfl) rfl rfl rfl (fun c21 => ?_) (fun c21 => ?_)
    ·
      refine wl_v (ov_assign rfl) rfl rfl rfl ?_
      refine wl_nil ?_
      refine ce_then ?_
      refine cw_seq ?_
      refine cw_seq ?_
      refine cw_region ?_
      refine wl_v (ov_assign rfl) rfl rfl rfl ?_
      refine wl_nil ?_
      refine ce_then ?_
      refine cw_block ?_
      refine cw_loop2 (fun (j : Nat) (b : Bool) => [(0, .slice A (k0) (c1)), (4, .slice none (0) (0)), (5, .slice A2 ((haveTo xss m k).length) (c2)), (6, .slice A2_12 ((prs m).length) (c2_12)), (7, .int .i64 (((k : Nat) : Int))), (8, .bool (b)), (9, .int .i64 (((j : Nat) : Int)))]) (fun (j : Nat) (b : Bool) => (row 43 2 A2_12 ((prs m).length) (c2_12) (cells fE (prs m))) :: (row 43 2 A2 ((haveTo xss m k).length) (c2) (cells fE (haveTo xss m k))) :: (row 25 2 A (k0) (c0) (cells fG (gsOf m hs))) :: (nest 43 2 fE hs xss) :: F) (fun (j : Nat) (b : Bool) => j ≤ xss.length ∧ b = haveUp xss ((prs m).getD k (0, 0)) j) (fun (j : Nat) (b : Bool) => xss.length - j) 0 true ⟨by omega, by unfold haveUp; first | (rw [decide_eq_true (show 0 < xss.length by omega)]; rfl) | (rw [decide_eq_false (show ¬(0 < xss.length) by omega)]; rfl)⟩ (.cons rfl (.cons rfl (.cons rfl (.cons rfl (.cons rfl (.cons rfl (.cons (congrArg (fun z => some (Value.int .i64 z)) (show 0 = ((0 : Nat) : Int) by first | omega | rfl | (simp; done))) (.nil)))))))) (.cons (.head) (.cons (.head) (.cons (.head) (.cons (.head) (.refl))))) ?_
      intro R1 j b hk1 hR1
      obtain ⟨hj1, hj2⟩ := hk1
      refine cw_seq ?_
      refine cw_seq ?_
      refine cw_region ?_
      refine wl_v (ov_move rfl) rfl rfl rfl ?_
      refine wl_v (ov_move rfl) rfl rfl rfl ?_
      refine wl_v (ov_len (sliceI_spec sI38) rfl) rfl rfl rfl ?_
      refine wl_if (ov_lss rfl rfl) rfl rfl rfl (fun c25 => ?_) (fun c25 => ?_)
      ·
        refine wl_nil ?_
        refine ce_then ?_
        refine cw_true rfl ?_
        refine cw_skip ?_
        refine ce_then ?_
        refine cw_seq ?_
        refine cw_block ?_
        refine ct_bool (i := 8) rfl (fun b8 => ?_) (fun b8 => ?_)
        ·
          refine cw_draw mixO [] (.cons (.head) (.cons (.head) (.cons (.head) (.cons (.head) (.refl))))) rfl ?_
          refine wg_takep (i := 0) rfl (ov_move rfl) rfl rfl rfl (by kernel_rfl) (by kernel_rfl) (by kernel_rfl) rfl ?_
          refine wg_takep (i := 1) rfl (ov_move rfl) rfl rfl rfl (by kernel_rfl) (by kernel_rfl) (by kernel_rfl) rfl ?_
          refine wg_take_go (i := 2) rfl rfl rfl (ov_move rfl) rfl (by kernel_rfl) (by kernel_rfl) (by kernel_rfl) (by kernel_rfl) ?_
          refine wg_take_go (i := 3) rfl rfl rfl (ov_move rfl) rfl (by kernel_rfl) (by kernel_rfl) (by kernel_rfl) (by kernel_rfl) ?_
          refine stg_fact (nest_facts (List.Mem.tail _ (List.Mem.tail _ (List.Mem.tail _ (List.Mem.head _))))) (fun hnf32 => ?_)
          have hnl32 := hnf32.1
          refine wg_take_go (i := 4) rfl rfl rfl (ov_index (k := j) (c := c1) sI38 tI25 rfl rfl (some_holds (q := j * 2) (holds_row (List.Mem.tail _ (List.Mem.tail _ (List.Mem.head _)))) (by rw [cells_length fG_len]; have hlt : j < (gsOf m hs).length := (by first | omega | (simp; omega)); omega)) (show j < k0 from (by first | omega | (simp; omega)))) rfl (by kernel_rfl) (by kernel_rfl) (by kernel_rfl) (by kernel_rfl) ?_
          refine wg_take_go (i := 5) rfl rfl rfl (ov_loadAgg (vs := [.int .i64 (((m : Nat) : Int)), .slice ((hs.getD j (none, 0, 0)).1) ((xss.getD j []).length) ((hs.getD j (none, 0, 0)).2.2)]) tI25 (holds_row (List.Mem.tail _ (List.Mem.tail _ (List.Mem.head _)))) rfl (some_holds (q := j * 2) (holds_row (List.Mem.tail _ (List.Mem.tail _ (List.Mem.head _)))) (by rw [cells_length fG_len]; have hlt : j < (gsOf m hs).length := (by first | omega | (simp; omega)); omega)) (elem_fG hnf32 (show j < xss.length from (by first | omega | (simp; omega)))) rfl) rfl (by kernel_rfl) (by kernel_rfl) (by kernel_rfl) (by kernel_rfl) ?_
          refine wg_take_go (i := 6) rfl rfl rfl (ov_move rfl) rfl (by kernel_rfl) (by kernel_rfl) (by kernel_rfl) (by kernel_rfl) ?_
          refine wg_take_go (i := 7) rfl rfl rfl (ov_move rfl) rfl (by kernel_rfl) (by kernel_rfl) (by kernel_rfl) (by kernel_rfl) ?_
          refine wg_take_go (i := 8) rfl rfl rfl (ov_index (k := k) (c := c2_12) sI23 tI43 rfl rfl (some_holds (q := k * 2) (holds_row (List.Mem.head _)) (by rw [cells_length fE_len]; have hlt : k < (prs m).length := (by first | omega | (simp; omega)); omega)) (show k < (prs m).length from (by first | omega | (simp; omega)))) rfl (by kernel_rfl) (by kernel_rfl) (by kernel_rfl) (by kernel_rfl) ?_
          refine wg_take_go (i := 9) rfl rfl rfl (ov_fieldAddr fI43_0 (some_holds (q := k * 2) (holds_row (List.Mem.head _)) (by rw [cells_length fE_len]; have hlt : k < (prs m).length := (by first | omega | (simp; omega)); omega)) rfl) rfl (by kernel_rfl) (by kernel_rfl) (by kernel_rfl) (by kernel_rfl) ?_
          refine wg_take_go (i := 10) rfl rfl rfl (ov_load tI3 (holds_row (List.Mem.head _)) rfl (get_fE0 (show k < (prs m).length from (by first | omega | (simp; omega))))) rfl (by kernel_rfl) (by kernel_rfl) (by kernel_rfl) (by kernel_rfl) ?_
          refine wg_take_go (i := 11) rfl rfl rfl (ov_move rfl) rfl (by kernel_rfl) (by kernel_rfl) (by kernel_rfl) (by kernel_rfl) ?_
          refine wg_take_go (i := 12) rfl rfl rfl (ov_move rfl) rfl (by kernel_rfl) (by kernel_rfl) (by kernel_rfl) (by kernel_rfl) ?_
          refine wg_take_go (i := 13) rfl rfl rfl (ov_index (k := k) (c := c2_12) sI23 tI43 rfl rfl (some_holds (q := k * 2) (holds_row (List.Mem.head _)) (by rw [cells_length fE_len]; have hlt : k < (prs m).length := (by first | omega | (simp; omega)); omega)) (show k < (prs m).length from (by first | omega | (simp; omega)))) rfl (by kernel_rfl) (by kernel_rfl) (by kernel_rfl) (by kernel_rfl) ?_
          refine wg_take_go (i := 14) rfl rfl rfl (ov_fieldAddr fI43_1 (some_holds (q := k * 2) (holds_row (List.Mem.head _)) (by rw [cells_length fE_len]; have hlt : k < (prs m).length := (by first | omega | (simp; omega)); omega)) rfl) rfl (by kernel_rfl) (by kernel_rfl) (by kernel_rfl) (by kernel_rfl) ?_
          refine wg_take_go (i := 15) rfl rfl rfl (ov_load tI3 (holds_row (List.Mem.head _)) rfl (get_fE1 (show k < (prs m).length from (by first | omega | (simp; omega))))) rfl (by kernel_rfl) (by kernel_rfl) (by kernel_rfl) (by kernel_rfl) ?_
          refine wg_one (i := 16) (by kernel_rfl) ?_
          refine go_rg rfl rfl rfl rfl (or_call (fv := []) (vs := [.agg #[.int .i64 (((m : Nat) : Int)), .slice ((hs.getD j (none, 0, 0)).1) ((xss.getD j []).length) ((hs.getD j (none, 0, 0)).2.2)], .int .i64 (((prs m).getD k (0, 0)).1), .int .i64 (((prs m).getD k (0, 0)).2)]) (cs := []) en113 rfl rfl (call_v (fun w hw => hasEdge_c w ((m : Nat) : Int) ((hs.getD j (none, 0, 0)).1) ((xss.getD j []).length) ((hs.getD j (none, 0, 0)).2.2) (xss.getD j []) (((prs m).getD k (0, 0)).1) (((prs m).getD k (0, 0)).2) ((holds_nest (List.Mem.tail _ (List.Mem.tail _ (List.Mem.tail _ (List.Mem.head _)))) (show j < xss.length from (by first | omega | (simp; omega)))) w hw) rfl (hnf32.2 j (show j < xss.length from (by first | omega | (simp; omega)))).2 (by have := (hG _ (getD_mem (xs := xss) (k := j) [] (by omega))).len21 (by omega); omega)))) (kt_if rfl (fun c44 => ?_) (fun c44 => ?_))
          ·
            refine gk (.cons (.head) (.cons (.head) (.cons (.head) (.cons (.head) (.refl))))) ?_
            refine wg_takep (i := 17) rfl (ov_pick_t rfl rfl) rfl rfl rfl (by kernel_rfl) (by kernel_rfl) (by kernel_rfl) rfl ?_
            refine wg_takep (i := 18) rfl (ov_assign rfl) rfl rfl rfl (by kernel_rfl) (by kernel_rfl) (by kernel_rfl) rfl ?_
            refine wg_done (by kernel_rfl) ?_
            refine ce_block ?_
            refine ce_then ?_
            refine cw_region ?_
            refine wl_v (ov_move rfl) rfl rfl rfl ?_
            refine wl_v (ov_add (r := ((j + 1 : Nat) : Int)) rfl rfl rfl (by omega)) rfl rfl rfl ?_
            refine wl_v (ov_assign rfl) rfl rfl rfl ?_
            refine wl_nil ?_
            exact fun ac_ w_ hs_ => hR1 (j + 1) true ⟨by omega, by rw [haveUp_succ, ← hj2, ‹b = true›, decide_eq_true ((hasE_prs (hG _ (getD_mem [] (by omega))) (by omega)).1 c44)]; rfl⟩ (by omega) ac_ w_ (hs_.weaken (.cons rfl (.cons rfl (.cons rfl (.cons rfl (.cons rfl (.cons rfl (.cons rfl (.nil)))))))) (.cons (.head) (.cons (.head) (.cons (.head) (.cons (.head) (.refl))))))
          ·
            refine gk (.cons (.head) (.cons (.head) (.cons (.head) (.cons (.head) (.refl))))) ?_
            refine wg_takep (i := 17) rfl (ov_pick_t rfl rfl) rfl rfl rfl (by kernel_rfl) (by kernel_rfl) (by kernel_rfl) rfl ?_
            refine wg_takep (i := 18) rfl (ov_assign rfl) rfl rfl rfl (by kernel_rfl) (by kernel_rfl) (by kernel_rfl) rfl ?_
            refine wg_done (by kernel_rfl) ?_
            refine ce_block ?_
            refine ce_then ?_
            refine cw_region ?_
            refine wl_v (ov_move rfl) rfl rfl rfl ?_
            refine wl_v (ov_add (r := ((j + 1 : Nat) : Int)) rfl rfl rfl (by omega)) rfl rfl rfl ?_
            refine wl_v (ov_assign rfl) rfl rfl rfl ?_
            refine wl_nil ?_
            exact fun ac_ w_ hs_ => hR1 (j + 1) false ⟨by omega, by rw [haveUp_succ, ← hj2, decide_eq_false (fun h => c44 ((hasE_prs (hG _ (getD_mem [] (by omega))) (by omega)).2 h)), Bool.and_false]⟩ (by omega) ac_ w_ (hs_.weaken (.cons rfl (.cons rfl (.cons rfl (.cons rfl (.cons rfl (.cons rfl (.cons rfl (.nil)))))))) (.cons (.head) (.cons (.head) (.cons (.head) (.cons (.head) (.refl))))))
        ·
          refine cw_draw mixO [] (.cons (.head) (.cons (.head) (.cons (.head) (.cons (.head) (.refl))))) rfl ?_
          refine wg_takep (i := 0) rfl (ov_move rfl) rfl rfl rfl (by kernel_rfl) (by kernel_rfl) (by kernel_rfl) rfl ?_
          refine wg_takep (i := 1) rfl (ov_move rfl) rfl rfl rfl (by kernel_rfl) (by kernel_rfl) (by kernel_rfl) rfl ?_
          refine wg_take_not (i := 2) rfl rfl rfl rfl rfl (by kernel_rfl) (by kernel_rfl) (by kernel_rfl) (by kernel_rfl) ?_
          refine wg_take_not (i := 3) rfl rfl rfl rfl rfl (by kernel_rfl) (by kernel_rfl) (by kernel_rfl) (by kernel_rfl) ?_
          refine wg_take_not (i := 4) rfl rfl rfl rfl rfl (by kernel_rfl) (by kernel_rfl) (by kernel_rfl) (by kernel_rfl) ?_
          refine wg_take_not (i := 5) rfl rfl rfl rfl rfl (by kernel_rfl) (by kernel_rfl) (by kernel_rfl) (by kernel_rfl) ?_
          refine wg_take_not (i := 6) rfl rfl rfl rfl rfl (by kernel_rfl) (by kernel_rfl) (by kernel_rfl) (by kernel_rfl) ?_
          refine wg_take_not (i := 7) rfl rfl rfl rfl rfl (by kernel_rfl) (by kernel_rfl) (by kernel_rfl) (by kernel_rfl) ?_
          refine wg_take_not (i := 8) rfl rfl rfl rfl rfl (by kernel_rfl) (by kernel_rfl) (by kernel_rfl) (by kernel_rfl) ?_
          refine wg_take_not (i := 9) rfl rfl rfl rfl rfl (by kernel_rfl) (by kernel_rfl) (by kernel_rfl) (by kernel_rfl) ?_
          refine wg_take_not (i := 10) rfl rfl rfl rfl rfl (by kernel_rfl) (by kernel_rfl) (by kernel_rfl) (by kernel_rfl) ?_
          refine wg_take_not (i := 11) rfl rfl rfl rfl rfl (by kernel_rfl) (by kernel_rfl) (by kernel_rfl) (by kernel_rfl) ?_
          refine wg_take_not (i := 12) rfl rfl rfl rfl rfl (by kernel_rfl) (by kernel_rfl) (by kernel_rfl) (by kernel_rfl) ?_
          refine wg_take_not (i := 13) rfl rfl rfl rfl rfl (by kernel_rfl) (by kernel_rfl) (by kernel_rfl) (by kernel_rfl) ?_
          refine wg_take_not (i := 14) rfl rfl rfl rfl rfl (by kernel_rfl) (by kernel_rfl) (by kernel_rfl) (by kernel_rfl) ?_
          refine wg_take_not (i := 15) rfl rfl rfl rfl rfl (by kernel_rfl) (by kernel_rfl) (by kernel_rfl) (by kernel_rfl) ?_
          refine wg_take_not (i := 16) rfl rfl rfl rfl rfl (by kernel_rfl) (by kernel_rfl) (by kernel_rfl) (by kernel_rfl) ?_
          refine wg_takep (i := 17) rfl (ov_pick_f rfl rfl) rfl rfl rfl (by kernel_rfl) (by kernel_rfl) (by kernel_rfl) rfl ?_
          refine wg_takep (i := 18) rfl (ov_assign rfl) rfl rfl rfl (by kernel_rfl) (by kernel_rfl) (by kernel_rfl) rfl ?_
          refine wg_done (by kernel_rfl) ?_
          refine ce_block ?_
          refine ce_then ?_
          refine cw_region ?_
          refine wl_v (ov_move rfl) rfl rfl rfl ?_
          refine wl_v (ov_add (r := ((j + 1 : Nat) : Int)) rfl rfl rfl (by omega)) rfl rfl rfl ?_
          refine wl_v (ov_assign rfl) rfl rfl rfl ?_
          refine wl_nil ?_
          exact fun ac_ w_ hs_ => hR1 (j + 1) false ⟨by omega, by rw [haveUp_succ, ← hj2, ‹b = false›]; rfl⟩ (by omega) ac_ w_ (hs_.weaken (.cons rfl (.cons rfl (.cons rfl (.cons rfl (.cons rfl (.cons rfl (.cons rfl (.nil)))))))) (.cons (.head) (.cons (.head) (.cons (.head) (.cons (.head) (.refl))))))
      ·
        refine wl_nil ?_
        refine ce_then ?_
        refine cw_false rfl ?_
        refine cw_exit ?_
        refine ce_then_exit ?_
        refine ce_then_exit ?_
        refine ce_hit ?_
        refine ce_then ?_
        refine cw_seq ?_
        refine cw_region ?_
        refine wl_v (ov_move rfl) rfl rfl rfl ?_
        refine wl_nil ?_
        refine ce_then ?_
        refine ct_bool (i := 46) rfl (fun b46 => ?_) (fun b46 => ?_)
        ·
          have hq9 : haveUp xss ((prs m).getD k (0, 0)) xss.length = true := by rw [show xss.length = j from by omega, ← hj2]; exact b46
          refine cw_true rfl ?_
          refine cw_region ?_
          refine wl_v (ov_move rfl) rfl rfl rfl ?_
          refine wl_v (ov_move rfl) rfl rfl rfl ?_
          refine wl_v (ov_move rfl) rfl rfl rfl ?_
          refine wl_v (ov_index (k := k) (c := c2_12) sI23 tI43 rfl rfl (some_holds (q := k * 2) (holds_row (List.Mem.head _)) (by rw [cells_length fE_len]; have hlt : k < (prs m).length := (by first | omega | (simp; omega)); omega)) (show k < (prs m).length from (by first | omega | (simp; omega)))) rfl rfl rfl ?_
          refine wl_v (ov_loadAgg (vs := [.int .i64 (((prs m).getD k (0, 0)).1), .int .i64 (((prs m).getD k (0, 0)).2)]) tI43 (holds_row (List.Mem.head _)) rfl (some_holds (q := k * 2) (holds_row (List.Mem.head _)) (by rw [cells_length fE_len]; have hlt : k < (prs m).length := (by first | omega | (simp; omega)); omega)) (cells_elem fE_len (0, 0) (show k < (prs m).length from (by first | omega | (simp; omega)))) rfl) rfl rfl rfl ?_
          refine wl_r (or_buildSlice (e := 43) (size := 2) (is := [0]) (vs := [.agg #[.int .i64 (((prs m).getD k (0, 0)).1), .int .i64 (((prs m).getD k (0, 0)).2)]]) (cs := cells fE ([(((prs m).getD k (0, 0)).1, ((prs m).getD k (0, 0)).2)])) rfl rfl rfl (by decide) (fun _ => by kernel_rfl)) rfl rfl (kt1 rfl (fun g52 => ?_))
          refine wl_r (or_append (c2 := 1) sI23 tI43 rfl (by decide) rfl rfl (.tail (.tail .head)) (holds_row (List.Mem.head _)) (by rw [cells_length fE_len]; try simp) (one_cells fE_one _) cells_append (by omega) (by omega)) rfl rfl (kt2p rfl (fun A53 c53 h53 => ?_))
          refine wl_v (ov_assign rfl) rfl rfl rfl ?_
          refine wl_nil ?_
          refine ce_block ?_
          refine ce_then ?_
          refine cw_region ?_
          refine wl_v (ov_move rfl) rfl rfl rfl ?_
          refine wl_v (ov_add (r := ((k + 1 : Nat) : Int)) rfl rfl rfl (by omega)) rfl rfl rfl ?_
          refine wl_v (ov_assign rfl) rfl rfl rfl ?_
          refine wl_nil ?_
          exact fun ac_ w_ hs_ => hR0 (k + 1) A53 c53 ⟨by omega, by rw [haveTo_succ (by omega), if_pos hq9, List.length_append]; exact h53⟩ (by omega) ac_ w_ (hs_.weaken (.cons rfl (.cons rfl (.cons rfl (.cons (congrArg (fun z => some (Value.slice A53 z c53)) (show (((haveTo xss m k).length) + 1) = ((haveTo xss m (k + 1)).length) from (by rw [haveTo_succ (by omega), if_pos hq9, List.length_append]; rfl))) (.cons rfl (.nil)))))) (.cons (.tail (.tail .head)) (.consE (show row 43 2 A53 (((haveTo xss m k).length) + 1) (c53) (cells fE ((haveTo xss m k) ++ ([(((prs m).getD k (0, 0)).1, ((prs m).getD k (0, 0)).2)]))) = row 43 2 A53 ((haveTo xss m (k + 1)).length) (c53) (cells fE (haveTo xss m (k + 1))) by rw [haveTo_succ (by omega), if_pos hq9, List.length_append]; rfl) (.head) (.cons (.tail .head) (.cons (.tail .head) ((.drop .refl)))))))
        ·
          have hq9 : ¬(haveUp xss ((prs m).getD k (0, 0)) xss.length = true) := by rw [show xss.length = j from by omega, ← hj2]; rw [b46]; exact Bool.false_ne_true
          refine cw_false rfl ?_
          refine cw_skip ?_
          refine ce_block ?_
          refine ce_then ?_
          refine cw_region ?_
          refine wl_v (ov_move rfl) rfl rfl rfl ?_
          refine wl_v (ov_add (r := ((k + 1 : Nat) : Int)) rfl rfl rfl (by omega)) rfl rfl rfl ?_
          refine wl_v (ov_assign rfl) rfl rfl rfl ?_
          refine wl_nil ?_
          exact fun ac_ w_ hs_ => hR0 (k + 1) A2 c2 ⟨by omega, by rw [haveTo_succ (by omega), if_neg hq9, List.append_nil]; exact hk2⟩ (by omega) ac_ w_ (hs_.weaken (.cons rfl (.cons rfl (.cons rfl (.cons (congrArg (fun z => some (Value.slice A2 z c2)) (show ((haveTo xss m k).length) = ((haveTo xss m (k + 1)).length) from (by rw [haveTo_succ (by omega), if_neg hq9, List.append_nil]))) (.cons rfl (.nil)))))) (.cons (.head) (.consE (show row 43 2 A2 ((haveTo xss m k).length) (c2) (cells fE (haveTo xss m k)) = row 43 2 A2 ((haveTo xss m (k + 1)).length) (c2) (cells fE (haveTo xss m (k + 1))) by rw [haveTo_succ (by omega), if_neg hq9, List.append_nil]) (.head) (.cons (.head) (.cons (.head) (.refl))))))
    ·
      refine wl_v (ov_assign rfl) rfl rfl rfl ?_
      refine wl_nil ?_
      refine ce_then ?_
      refine cw_seq ?_
      refine cw_seq ?_
      refine cw_region ?_
      refine wl_v (ov_assign rfl) rfl rfl rfl ?_
      refine wl_nil ?_
      refine ce_then ?_
      refine cw_block ?_
      refine cw_loop2 (fun (j : Nat) (b : Bool) => [(0, .slice A (k0) (c1)), (4, .slice none (0) (0)), (5, .slice A2 ((haveTo xss m k).length) (c2)), (6, .slice A2_12 ((prs m).length) (c2_12)), (7, .int .i64 (((k : Nat) : Int))), (8, .bool (b)), (9, .int .i64 (((j : Nat) : Int)))]) (fun (j : Nat) (b : Bool) => (row 43 2 A2_12 ((prs m).length) (c2_12) (cells fE (prs m))) :: (row 43 2 A2 ((haveTo xss m k).length) (c2) (cells fE (haveTo xss m k))) :: (row 25 2 A (k0) (c0) (cells fG (gsOf m hs))) :: (nest 43 2 fE hs xss) :: F) (fun (j : Nat) (b : Bool) => j ≤ xss.length ∧ b = haveUp xss ((prs m).getD k (0, 0)) j) (fun (j : Nat) (b : Bool) => xss.length - j) 0 false ⟨by omega, by unfold haveUp; first | (rw [decide_eq_true (show 0 < xss.length by omega)]; rfl) | (rw [decide_eq_false (show ¬(0 < xss.length) by omega)]; rfl)⟩ (.cons rfl (.cons rfl (.cons rfl (.cons rfl (.cons rfl (.cons rfl (.cons (congrArg (fun z => some (Value.int .i64 z)) (show 0 = ((0 : Nat) : Int) by first | omega | rfl | (simp; done))) (.nil)))))))) (.cons (.head) (.cons (.head) (.cons (.head) (.cons (.head) (.refl))))) ?_
      intro R1 j b hk1 hR1
      obtain ⟨hj1, hj2⟩ := hk1
      refine cw_seq ?_
      refine cw_seq ?_
      refine cw_region ?_
      refine wl_v (ov_move rfl) rfl rfl rfl ?_
      refine wl_v (ov_move rfl) rfl rfl rfl ?_
      refine wl_v (ov_len (sliceI_spec sI38) rfl) rfl rfl rfl ?_
      refine wl_if (ov_lss rfl rfl) rfl rfl rfl (fun c25 => ?_) (fun c25 => ?_)
      ·
        refine wl_nil ?_
        refine ce_then ?_
        refine cw_true rfl ?_
        refine cw_skip ?_
        refine ce_then ?_
        refine cw_seq ?_
        refine cw_block ?_
        refine ct_bool (i := 8) rfl (fun b8 => ?_) (fun b8 => ?_)
        ·
          refine cw_draw mixO [] (.cons (.head) (.cons (.head) (.cons (.head) (.cons (.head) (.refl))))) rfl ?_
          refine wg_takep (i := 0) rfl (ov_move rfl) rfl rfl rfl (by kernel_rfl) (by kernel_rfl) (by kernel_rfl) rfl ?_
          refine wg_takep (i := 1) rfl (ov_move rfl) rfl rfl rfl (by kernel_rfl) (by kernel_rfl) (by kernel_rfl) rfl ?_
          refine wg_take_go (i := 2) rfl rfl rfl (ov_move rfl) rfl (by kernel_rfl) (by kernel_rfl) (by kernel_rfl) (by kernel_rfl) ?_
          refine wg_take_go (i := 3) rfl rfl rfl (ov_move rfl) rfl (by kernel_rfl) (by kernel_rfl) (by kernel_rfl) (by kernel_rfl) ?_
          refine stg_fact (nest_facts (List.Mem.tail _ (List.Mem.tail _ (List.Mem.tail _ (List.Mem.head _))))) (fun hnf32 => ?_)
          have hnl32 := hnf32.1
          refine wg_take_go (i := 4) rfl rfl rfl (ov_index (k := j) (c := c1) sI38 tI25 rfl rfl (some_holds (q := j * 2) (holds_row (List.Mem.tail _ (List.Mem.tail _ (List.Mem.head _)))) (by rw [cells_length fG_len]; have hlt : j < (gsOf m hs).length := (by first | omega | (simp; omega)); omega)) (show j < k0 from (by first | omega | (simp; omega)))) rfl (by kernel_rfl) (by kernel_rfl) (by kernel_rfl) (by kernel_rfl) ?_
          refine wg_take_go (i := 5) rfl rfl rfl (ov_loadAgg (vs := [.int .i64 (((m : Nat) : Int)), .slice ((hs.getD j (none, 0, 0)).1) ((xss.getD j []).length) ((hs.getD j (none, 0, 0)).2.2)]) tI25 (holds_row (List.Mem.tail _ (List.Mem.tail _ (List.Mem.head _)))) rfl (some_holds (q := j * 2) (holds_row (List.Mem.tail _ (List.Mem.tail _ (List.Mem.head _)))) (by rw [cells_length fG_len]; have hlt : j < (gsOf m hs).length := (by first | omega | (simp; omega)); omega)) (elem_fG hnf32 (show j < xss.length from (by first | omega | (simp; omega)))) rfl) rfl (by kernel_rfl) (by kernel_rfl) (by kernel_rfl) (by kernel_rfl) ?_
          refine wg_take_go (i := 6) rfl rfl rfl (ov_move rfl) rfl (by kernel_rfl) (by kernel_rfl) (by kernel_rfl) (by kernel_rfl) ?_
          refine wg_take_go (i := 7) rfl rfl rfl (ov_move rfl) rfl (by kernel_rfl) (by kernel_rfl) (by kernel_rfl) (by kernel_rfl) ?_
          refine wg_take_go (i := 8) rfl rfl rfl (ov_index (k := k) (c := c2_12) sI23 tI43 rfl rfl (some_holds (q := k * 2) (holds_row (List.Mem.head _)) (by rw [cells_length fE_len]; have hlt : k < (prs m).length := (by first | omega | (simp; omega)); omega)) (show k < (prs m).length from (by first | omega | (simp; omega)))) rfl (by kernel_rfl) (by kernel_rfl) (by kernel_rfl) (by kernel_rfl) ?_
          refine wg_take_go (i := 9) rfl rfl rfl (ov_fieldAddr fI43_0 (some_holds (q := k * 2) (holds_row (List.Mem.head _)) (by rw [cells_length fE_len]; have hlt : k < (prs m).length := (by first | omega | (simp; omega)); omega)) rfl) rfl (by kernel_rfl) (by kernel_rfl) (by kernel_rfl) (by kernel_rfl) ?_
          refine wg_take_go (i := 10) rfl rfl rfl (ov_load tI3 (holds_row (List.Mem.head _)) rfl (get_fE0 (show k < (prs m).length from (by first | omega | (simp; omega))))) rfl (by kernel_rfl) (by kernel_rfl) (by kernel_rfl) (by kernel_rfl) ?_
          refine wg_take_go (i := 11) rfl rfl rfl (ov_move rfl) rfl (by kernel_rfl) (by kernel_rfl) (by kernel_rfl) (by kernel_rfl) ?_
          refine wg_take_go (i := 12) rfl rfl rfl (ov_move rfl) rfl (by kernel_rfl) (by kernel_rfl) (by kernel_rfl) (by kernel_rfl) ?_
          refine wg_take_go (i := 13) rfl rfl rfl (ov_index (k := k) (c := c2_12) sI23 tI43 rfl rfl (some_holds (q := k * 2) (holds_row (List.Mem.head _)) (by rw [cells_length fE_len]; have hlt : k < (prs m).length := (by first | omega | (simp; omega)); omega)) (show k < (prs m).length from (by first | omega | (simp; omega)))) rfl (by kernel_rfl) (by kernel_rfl) (by kernel_rfl) (by kernel_rfl) ?_
          refine wg_take_go (i := 14) rfl rfl rfl (ov_fieldAddr fI43_1 (some_holds (q := k * 2) (holds_row (List.Mem.head _)) (by rw [cells_length fE_len]; have hlt : k < (prs m).length := (by first | omega | (simp; omega)); omega)) rfl) rfl (by kernel_rfl) (by kernel_rfl) (by kernel_rfl) (by kernel_rfl) ?_
          refine wg_take_go (i := 15) rfl rfl rfl (ov_load tI3 (holds_row (List.Mem.head _)) rfl (get_fE1 (show k < (prs m).length from (by first | omega | (simp; omega))))) rfl (by kernel_rfl) (by kernel_rfl) (by kernel_rfl) (by kernel_rfl) ?_
          refine wg_one (i := 16) (by kernel_rfl) ?_
          refine go_rg rfl rfl rfl rfl (or_call (fv := []) (vs := [.agg #[.int .i64 (((m : Nat) : Int)), .slice ((hs.getD j (none, 0, 0)).1) ((xss.getD j []).length) ((hs.getD j (none, 0, 0)).2.2)], .int .i64 (((prs m).getD k (0, 0)).1), .int .i64 (((prs m).getD k (0, 0)).2)]) (cs := []) en113 rfl rfl (call_v (fun w hw => hasEdge_c w ((m : Nat) : Int) ((hs.getD j (none, 0, 0)).1) ((xss.getD j []).length) ((hs.getD j (none, 0, 0)).2.2) (xss.getD j []) (((prs m).getD k (0, 0)).1) (((prs m).getD k (0, 0)).2) ((holds_nest (List.Mem.tail _ (List.Mem.tail _ (List.Mem.tail _ (List.Mem.head _)))) (show j < xss.length from (by first | omega | (simp; omega)))) w hw) rfl (hnf32.2 j (show j < xss.length from (by first | omega | (simp; omega)))).2 (by have := (hG _ (getD_mem (xs := xss) (k := j) [] (by omega))).len21 (by omega); omega)))) (kt_if rfl (fun c44 => ?_) (fun c44 => ?_))
          ·
            refine gk (.cons (.head) (.cons (.head) (.cons (.head) (.cons (.head) (.refl))))) ?_
            refine wg_takep (i := 17) rfl (ov_pick_t rfl rfl) rfl rfl rfl (by kernel_rfl) (by kernel_rfl) (by kernel_rfl) rfl ?_
            refine wg_takep (i := 18) rfl (ov_assign rfl) rfl rfl rfl (by kernel_rfl) (by kernel_rfl) (by kernel_rfl) rfl ?_
            refine wg_done (by kernel_rfl) ?_
            refine ce_block ?_
            refine ce_then ?_
            refine cw_region ?_
            refine wl_v (ov_move rfl) rfl rfl rfl ?_
            refine wl_v (ov_add (r := ((j + 1 : Nat) : Int)) rfl rfl rfl (by omega)) rfl rfl rfl ?_
            refine wl_v (ov_assign rfl) rfl rfl rfl ?_
            refine wl_nil ?_
            exact fun ac_ w_ hs_ => hR1 (j + 1) true ⟨by omega, by rw [haveUp_succ, ← hj2, ‹b = true›, decide_eq_true ((hasE_prs (hG _ (getD_mem [] (by omega))) (by omega)).1 c44)]; rfl⟩ (by omega) ac_ w_ (hs_.weaken (.cons rfl (.cons rfl (.cons rfl (.cons rfl (.cons rfl (.cons rfl (.cons rfl (.nil)))))))) (.cons (.head) (.cons (.head) (.cons (.head) (.cons (.head) (.refl))))))
          ·
            refine gk (.cons (.head) (.cons (.head) (.cons (.head) (.cons (.head) (.refl))))) ?_
            refine wg_takep (i := 17) rfl (ov_pick_t rfl rfl) rfl rfl rfl (by kernel_rfl) (by kernel_rfl) (by kernel_rfl) rfl ?_
            refine wg_takep (i := 18) rfl (ov_assign rfl) rfl rfl rfl (by kernel_rfl) (by kernel_rfl) (by kernel_rfl) rfl ?_
            refine wg_done (by kernel_rfl) ?_
            refine ce_block ?_
            refine ce_then ?_
            refine cw_region ?_
            refine wl_v (ov_move rfl) rfl rfl rfl ?_
            refine wl_v (ov_add (r := ((j + 1 : Nat) : Int)) rfl rfl rfl (by omega)) rfl rfl rfl ?_
            refine wl_v (ov_assign rfl) rfl rfl rfl ?_
            refine wl_nil ?_
            exact fun ac_ w_ hs_ => hR1 (j + 1) false ⟨by omega, by rw [haveUp_succ, ← hj2, decide_eq_false (fun h => c44 ((hasE_prs (hG _ (getD_mem [] (by omega))) (by omega)).2 h)), Bool.and_false]⟩ (by omega) ac_ w_ (hs_.weaken (.cons rfl (.cons rfl (.cons rfl (.cons rfl (.cons rfl (.cons rfl (.cons rfl (.nil)))))))) (.cons (.head) (.cons (.head) (.cons (.head) (.cons (.head) (.refl))))))
        ·
          refine cw_draw mixO [] (.cons (.head) (.cons (.head) (.cons (.head) (.cons (.head) (.refl))))) rfl ?_
          refine wg_takep (i := 0) rfl (ov_move rfl) rfl rfl rfl (by kernel_rfl) (by kernel_rfl) (by kernel_rfl) rfl ?_
          refine wg_takep (i := 1) rfl (ov_move rfl) rfl rfl rfl (by kernel_rfl) (by kernel_rfl) (by kernel_rfl) rfl ?_
          refine wg_take_not (i := 2) rfl rfl rfl rfl rfl (by kernel_rfl) (by kernel_rfl) (by kernel_rfl) (by kernel_rfl) ?_
          refine wg_take_not (i := 3) rfl rfl rfl rfl rfl (by kernel_rfl) (by kernel_rfl) (by kernel_rfl) (by kernel_rfl) ?_
          refine wg_take_not (i := 4) rfl rfl rfl rfl rfl (by kernel_rfl) (by kernel_rfl) (by kernel_rfl) (by kernel_rfl) ?_
          refine wg_take_not (i := 5) rfl rfl rfl rfl rfl (by kernel_rfl) (by kernel_rfl) (by kernel_rfl) (by kernel_rfl) ?_
          refine wg_take_not (i := 6) rfl rfl rfl rfl rfl (by kernel_rfl) (by kernel_rfl) (by kernel_rfl) (by kernel_rfl) ?_
          refine wg_take_not (i := 7) rfl rfl rfl rfl rfl (by kernel_rfl) (by kernel_rfl) (by kernel_rfl) (by kernel_rfl) ?_
          refine wg_take_not (i := 8) rfl rfl rfl rfl rfl (by kernel_rfl) (by kernel_rfl) (by kernel_rfl) (by kernel_rfl) ?_
          refine wg_take_not (i := 9) rfl rfl rfl rfl rfl (by kernel_rfl) (by kernel_rfl) (by kernel_rfl) (by kernel_rfl) ?_
          refine wg_take_not (i := 10) rfl rfl rfl rfl rfl (by kernel_rfl) (by kernel_rfl) (by kernel_rfl) (by kernel_rfl) ?_
          refine wg_take_not (i := 11) rfl rfl rfl rfl rfl (by kernel_rfl) (by kernel_rfl) (by kernel_rfl) (by kernel_rfl) ?_
          refine wg_take_not (i := 12) rfl rfl rfl rfl rfl (by kernel_rfl) (by kernel_rfl) (by kernel_rfl) (by kernel_rfl) ?_
          refine wg_take_not (i := 13) rfl rfl rfl rfl rfl (by kernel_rfl) (by kernel_rfl) (by kernel_rfl) (by kernel_rfl) ?_
          refine wg_take_not (i := 14) rfl rfl rfl rfl rfl (by kernel_rfl) (by kernel_rfl) (by kernel_rfl) (by kernel_rfl) ?_
          refine wg_take_not (i := 15) rfl rfl rfl rfl rfl (by kernel_rfl) (by kernel_rfl) (by kernel_rfl) (by kernel_rfl) ?_
          refine wg_take_not (i := 16) rfl rfl rfl rfl rfl (by kernel_rfl) (by kernel_rfl) (by kernel_rfl) (by kernel_rfl) ?_
          refine wg_takep (i := 17) rfl (ov_pick_f rfl rfl) rfl rfl rfl (by kernel_rfl) (by kernel_rfl) (by kernel_rfl) rfl ?_
          refine wg_takep (i := 18) rfl (ov_assign rfl) rfl rfl rfl (by kernel_rfl) (by kernel_rfl) (by kernel_rfl) rfl ?_
          refine wg_done (by kernel_rfl) ?_
          refine ce_block ?_
          refine ce_then ?_
          refine cw_region ?_
          refine wl_v (ov_move rfl) rfl rfl rfl ?_
          refine wl_v (ov_add (r := ((j + 1 : Nat) : Int)) rfl rfl rfl (by omega)) rfl rfl rfl ?_
          refine wl_v (ov_assign rfl) rfl rfl rfl ?_
          refine wl_nil ?_
          exact fun ac_ w_ hs_ => hR1 (j + 1) false ⟨by omega, by rw [haveUp_succ, ← hj2, ‹b = false›]; rfl⟩ (by omega) ac_ w_ (hs_.weaken (.cons rfl (.cons rfl (.cons rfl (.cons rfl (.cons rfl (.cons rfl (.cons rfl (.nil)))))))) (.cons (.head) (.cons (.head) (.cons (.head) (.cons (.head) (.refl))))))
      ·
        refine wl_nil ?_
        refine ce_then ?_
        refine cw_false rfl ?_
        refine cw_exit ?_
        refine ce_then_exit ?_
        refine ce_then_exit ?_
        refine ce_hit ?_
        refine ce_then ?_
        refine cw_seq ?_
        refine cw_region ?_
        refine wl_v (ov_move rfl) rfl rfl rfl ?_
        refine wl_nil ?_
        refine ce_then ?_
        refine ct_bool (i := 46) rfl (fun b46 => ?_) (fun b46 => ?_)
        ·
          have hq9 : haveUp xss ((prs m).getD k (0, 0)) xss.length = true := by rw [show xss.length = j from by omega, ← hj2]; exact b46
          refine cw_true rfl ?_
          refine cw_region ?_
          refine wl_v (ov_move rfl) rfl rfl rfl ?_
          refine wl_v (ov_move rfl) rfl rfl rfl ?_
          refine wl_v (ov_move rfl) rfl rfl rfl ?_
          refine wl_v (ov_index (k := k) (c := c2_12) sI23 tI43 rfl rfl (some_holds (q := k * 2) (holds_row (List.Mem.head _)) (by rw [cells_length fE_len]; have hlt : k < (prs m).length := (by first | omega | (simp; omega)); omega)) (show k < (prs m).length from (by first | omega | (simp; omega)))) rfl rfl rfl ?_
          refine wl_v (ov_loadAgg (vs := [.int .i64 (((prs m).getD k (0, 0)).1), .int .i64 (((prs m).getD k (0, 0)).2)]) tI43 (holds_row (List.Mem.head _)) rfl (some_holds (q := k * 2) (holds_row (List.Mem.head _)) (by rw [cells_length fE_len]; have hlt : k < (prs m).length := (by first | omega | (simp; omega)); omega)) (cells_elem fE_len (0, 0) (show k < (prs m).length from (by first | omega | (simp; omega)))) rfl) rfl rfl rfl ?_
          refine wl_r (or_buildSlice (e := 43) (size := 2) (is := [0]) (vs := [.agg #[.int .i64 (((prs m).getD k (0, 0)).1), .int .i64 (((prs m).getD k (0, 0)).2)]]) (cs := cells fE ([(((prs m).getD k (0, 0)).1, ((prs m).getD k (0, 0)).2)])) rfl rfl rfl (by decide) (fun _ => by kernel_rfl)) rfl rfl (kt1 rfl (fun g52 => ?_))
          refine wl_r (or_append (c2 := 1) sI23 tI43 rfl (by decide) rfl rfl (.tail (.tail .head)) (holds_row (List.Mem.head _)) (by rw [cells_length fE_len]; try simp) (one_cells fE_one _) cells_append (by omega) (by omega)) rfl rfl (kt2p rfl (fun A53 c53 h53 => ?_))
          refine wl_v (ov_assign rfl) rfl rfl rfl ?_
          refine wl_nil ?_
          refine ce_block ?_
          refine ce_then ?_
          refine cw_region ?_
          refine wl_v (ov_move rfl) rfl rfl rfl ?_
          refine wl_v (ov_add (r := ((k + 1 : Nat) : Int)) rfl rfl rfl (by omega)) rfl rfl rfl ?_
          refine wl_v (ov_assign rfl) rfl rfl rfl ?_
          refine wl_nil ?_
          exact fun ac_ w_ hs_ => hR0 (k + 1) A53 c53 ⟨by omega, by rw [haveTo_succ (by omega), if_pos hq9, List.length_append]; exact h53⟩ (by omega) ac_ w_ (hs_.weaken (.cons rfl (.cons rfl (.cons rfl (.cons (congrArg (fun z => some (Value.slice A53 z c53)) (show (((haveTo xss m k).length) + 1) = ((haveTo xss m (k + 1)).length) from (by rw [haveTo_succ (by omega), if_pos hq9, List.length_append]; rfl))) (.cons rfl (.nil)))))) (.cons (.tail (.tail .head)) (.consE (show row 43 2 A53 (((haveTo xss m k).length) + 1) (c53) (cells fE ((haveTo xss m k) ++ ([(((prs m).getD k (0, 0)).1, ((prs m).getD k (0, 0)).2)]))) = row 43 2 A53 ((haveTo xss m (k + 1)).length) (c53) (cells fE (haveTo xss m (k + 1))) by rw [haveTo_succ (by omega), if_pos hq9, List.length_append]; rfl) (.head) (.cons (.tail .head) (.cons (.tail .head) ((.drop .refl)))))))
        ·
          have hq9 : ¬(haveUp xss ((prs m).getD k (0, 0)) xss.length = true) := by rw [show xss.length = j from by omega, ← hj2]; rw [b46]; exact Bool.false_ne_true
          refine cw_false rfl ?_
          refine cw_skip ?_
          refine ce_block ?_
          refine ce_then ?_
          refine cw_region ?_
          refine wl_v (ov_move rfl) rfl rfl rfl ?_
          refine wl_v (ov_add (r := ((k + 1 : Nat) : Int)) rfl rfl rfl (by omega)) rfl rfl rfl ?_
          refine wl_v (ov_assign rfl) rfl rfl rfl ?_
          refine wl_nil ?_
          exact fun ac_ w_ hs_ => hR0 (k + 1) A2 c2 ⟨by omega, by rw [haveTo_succ (by omega), if_neg hq9, List.append_nil]; exact hk2⟩ (by omega) ac_ w_ (hs_.weaken (.cons rfl (.cons rfl (.cons rfl (.cons (congrArg (fun z => some (Value.slice A2 z c2)) (show ((haveTo xss m k).length) = ((haveTo xss m (k + 1)).length) from (by rw [haveTo_succ (by omega), if_neg hq9, List.append_nil]))) (.cons rfl (.nil)))))) (.cons (.head) (.consE (show row 43 2 A2 ((haveTo xss m k).length) (c2) (cells fE (haveTo xss m k)) = row 43 2 A2 ((haveTo xss m (k + 1)).length) (c2) (cells fE (haveTo xss m (k + 1))) by rw [haveTo_succ (by omega), if_neg hq9, List.append_nil]) (.head) (.cons (.head) (.cons (.head) (.refl))))))
  ·
    refine wl_nil ?_
    refine ce_then ?_
    refine cw_false rfl ?_
    refine cw_exit ?_
    refine ce_then_exit ?_
    refine ce_then_exit ?_
    refine ce_hit ?_
    refine ce_then ?_
    refine cw_seq ?_
    refine cw_region ?_
    refine wl_v (ov_move rfl) rfl rfl rfl ?_
    refine wl_v (ov_assign rfl) rfl rfl rfl ?_
    refine wl_nil ?_
    refine ce_then ?_
    refine cw_ret ?_
    refine ce_results (v := .slice A2 ((haveTo xss m k).length) (c2)) (res1 rfl (rv_t rfl)) (fun w' hw => ?_)
    exact ⟨A2, c2, (by rw [show (prs m).length = k from by omega]; exact hk2), (by rw [show (prs m).length = k from by omega]), ((.consE (show row 43 2 A2 ((haveTo xss m k).length) (c2) (cells fE (haveTo xss m k)) = row 43 2 A2 ((haveTo xss m ((prs m).length)).length) (c2) (cells fE (haveTo xss m ((prs m).length))) by rw [show (prs m).length = k from by omega]) (.tail .head) (.cons (.tail .head) (.cons (.tail .head) ((.drop .refl)))) : Keep _ _).ss hw)⟩
set_option maxRecDepth 100000 in
theorem ForcS_c (w : World) (A : Option Addr) (n : Nat) (c : Nat) (xs : List (Int)) (hA : At w A (cells fI xs)) (eA : xs.length = n) (lA : n ≤ c) (hs : xs.length ≤ 1048576) : Calls Try.prog 20 #[.slice A (n) (c)] w (Ret fun rv w' => ∃ A2 c2, ((forcV xs).length ≤ c2) ∧ rv = .slice A2 ((forcV xs).length) (c2) ∧ New w w' [row 43 2 A2 ((forcV xs).length) (c2) (cells fE (forcV xs))]) := by
  have oA := hA.atB
  subst eA
  have hal := allV_len xs
  have hfl := haveTo_forc xs
  refine fn_enter (args := [.slice A (xs.length) (c)]) Try.func20 rfl Try.ntmps20 rfl (SS.start w) ?_
  refine cw_seq ?_
  refine cw_region ?_
  refine wl_v (ov_assign rfl) rfl rfl rfl ?_
  refine wl_nil ?_
  refine ce_then ?_
  refine cw_seq ?_
  refine cw_seq ?_
  refine cw_region ?_
  refine wl_v (ov_move rfl) rfl rfl rfl ?_
  refine wl_r (or_call (fv := []) (vs := [.slice A (xs.length) (c)]) (cs := []) en60 rfl rfl (call_v (fun w hw => validS_c w A xs.length c xs ((holds_old oA) w hw) rfl lA (by first | assumption | omega | (simp; omega))))) rfl rfl (kt_if rfl (fun c4 => ?_) (fun c4 => ?_))
  ·
    refine wl_v (ov_not rfl) rfl rfl rfl ?_
    refine wl_v (ov_move rfl) rfl rfl rfl ?_
    refine wl_go rfl rfl ?_
    refine wl_v (ov_move rfl) rfl rfl rfl ?_
    refine wl_go rfl rfl ?_
    refine wl_v (ov_len (sliceI_spec sI31) rfl) rfl rfl rfl ?_
    refine wl_go rfl rfl ?_
    refine wl_if (ov_gtr rfl rfl) rfl rfl rfl (fun c9 => ?_) (fun c9 => ?_)
    ·
      have hv : forcV xs = [] := if_neg (fun h0 => by rw [show allV xs = [] from if_neg (fun h2 => by have := h2.2; omega)] at h0; simp at h0)
      refine ct_none fE 43 2 ?_
      refine wl_v (ov_pick_f rfl rfl) rfl rfl rfl ?_
      refine wl_nil ?_
      refine ce_then ?_
      refine cw_true rfl ?_
      refine cw_seq ?_
      refine cw_region ?_
      refine wl_v (ov_assign rfl) rfl rfl rfl ?_
      refine wl_nil ?_
      refine ce_then ?_
      refine cw_ret ?_
      refine ce_then_ret ?_
      refine ce_results (v := .slice none (0) (0)) (res1 rfl (rv_t rfl)) (fun w' hw => ?_)
      exact ⟨none, 0, (by rw [hv]; exact Nat.le_refl _), (by rw [hv] <;> rfl), ((.consE (show row 43 2 none (0) (0) (cells fE ([])) = row 43 2 none ((forcV xs).length) (0) (cells fE (forcV xs)) by rw [hv] <;> rfl) (.head) (.nil) : Keep _ _).ss hw).to_new⟩
    ·
      refine wl_v (ov_pick_f rfl rfl) rfl rfl rfl ?_
      refine wl_nil ?_
      refine ce_then ?_
      refine cw_false rfl ?_
      refine cw_skip ?_
      refine ce_then ?_
      refine cw_seq ?_
      refine cw_region ?_
      refine wl_v (ov_move rfl) rfl rfl rfl ?_
      refine wl_r (or_call (fv := []) (vs := [.slice A (xs.length) (c)]) (cs := []) en62 rfl rfl (call_x3 (fun w hw => realS_c w A xs.length c xs ((holds_old oA) w hw) rfl lA (by first | assumption | omega | (simp; omega)) (by omega)))) rfl rfl (kt3p rfl (fun A2_12 c2_12 hs_12 h_12 => ?_))
      refine ct_fact (nest_facts (List.Mem.tail _ (List.Mem.head _))) (fun hnf => ?_)
      refine wl_v (ov_move rfl) rfl rfl rfl ?_
      refine wl_v (ov_len (sliceI_spec sI31) rfl) rfl rfl rfl ?_
      refine wl_r (or_call (fv := []) (vs := [.slice A2_12 ((allV xs).length) (c2_12), .int .i64 (((xs.length : Nat) : Int))]) (cs := []) en61 rfl rfl (call_o (.cons (.head) (.cons (.head) (.nil))) (fun w hw => allHave_c w _ _ _ xs.length A2_12 ((allV xs).length) c2_12 c2_12 hs_12 (allV xs) h_12 rfl hnf.1 (by first | assumption | omega | (simp; omega)) (fun g hg => by obtain ⟨i, hi, rfl⟩ := List.getElem_of_mem hg; have h9 := allV_gr hi; rw [List.getD_eq_getElem?_getD, List.getElem?_eq_getElem hi] at h9; exact h9) (by first | assumption | omega | (simp; omega)) hw))) rfl rfl (kt2p rfl (fun A2_15 c2_15 h_15 => ?_))
      refine wl_v (ov_assign rfl) rfl rfl rfl ?_
      refine wl_nil ?_
      refine ce_then ?_
      refine cw_ret ?_
      refine ce_results (v := .slice A2_15 ((haveTo (allV xs) xs.length ((prs xs.length).length)).length) (c2_15)) (res1 rfl (rv_t rfl)) (fun w' hw => ?_)
      exact ⟨A2_15, c2_15, (by rw [← hfl]; exact h_15), (by rw [hfl]), ((.consE (show row 43 2 A2_15 ((haveTo (allV xs) xs.length ((prs xs.length).length)).length) (c2_15) (cells fE (haveTo (allV xs) xs.length ((prs xs.length).length))) = row 43 2 A2_15 ((forcV xs).length) (c2_15) (cells fE (forcV xs)) by rw [hfl]) (.head) (.nil) : Keep _ _).ss hw).to_new⟩
  ·
    have hv : forcV xs = [] := if_neg (fun h0 => by rw [show allV xs = [] from if_neg (fun h2 => c4 h2.1)] at h0; simp at h0)
    refine ct_none fE 43 2 ?_
    refine wl_v (ov_not rfl) rfl rfl rfl ?_
    refine wl_v (ov_move rfl) rfl rfl rfl ?_
    refine wl_not rfl rfl rfl rfl rfl rfl ?_
    refine wl_not rfl rfl rfl rfl rfl rfl ?_
    refine wl_not rfl rfl rfl rfl rfl rfl ?_
    refine wl_v (ov_pick_t rfl rfl) rfl rfl rfl ?_
    refine wl_nil ?_
    refine ce_then ?_
    refine cw_true rfl ?_
    refine cw_seq ?_
    refine cw_region ?_
    refine wl_v (ov_assign rfl) rfl rfl rfl ?_
    refine wl_nil ?_
    refine ce_then ?_
    refine cw_ret ?_
    refine ce_then_ret ?_
    refine ce_results (v := .slice none (0) (0)) (res1 rfl (rv_t rfl)) (fun w' hw => ?_)
    exact ⟨none, 0, (by rw [hv]; exact Nat.le_refl _), (by rw [hv] <;> rfl), ((.consE (show row 43 2 none (0) (0) (cells fE ([])) = row 43 2 none ((forcV xs).length) (0) (cells fE (forcV xs)) by rw [hv] <;> rfl) (.head) (.nil) : Keep _ _).ss hw).to_new⟩
set_option maxRecDepth 100000 in
theorem smallDegrees_c (w w0 : World) (Bd : Nat) (F : List Ent) (g : Nat) (Ar : Option Addr) (nr : Nat) (cr : Nat) (bs : List Nat) (p : Nat) (hAr : Holds (SS w0 Bd F) Ar (cells fY bs)) (eAr : bs.length = nr) (lAr : nr ≤ cr) (hy : nr ≤ 2000 ∧ (∀ x ∈ bs, x < 256) ∧ p ≤ 80000) (hss : SS w0 Bd ((blk g [.slice Ar (nr) (cr), .int .i64 (((p : Nat) : Int))] 99) :: F) w) : Calls Try.prog 108 #[elp (some ⟨g, 0, none⟩) (0)] w (Ret fun rv w' => ∃ A2 c2 ys q, ((ys.length ≤ c2 ∧ ys.length ≤ 8 ∧ Sm ys) ∧ p ≤ q ∧ q ≤ p + 300) ∧ rv = .slice A2 (ys.length) (c2) ∧ SS w0 Bd ((row 3 1 A2 (ys.length) (c2) (cells fI ys)) :: (blk g [.slice Ar (nr) (cr), .int .i64 (((q : Nat) : Int))] 99) :: F) w') := by
  refine fn_enter (args := [elp (some ⟨g, 0, none⟩) (0)]) Try.func108 rfl Try.ntmps108 rfl hss ?_
  refine cw_seq ?_
  refine cw_region ?_
  refine wl_v (ov_assign rfl) rfl rfl rfl ?_
  refine wl_nil ?_
  refine ce_then ?_
  refine cw_seq ?_
  refine cw_region ?_
  refine wl_v (ov_move rfl) rfl rfl rfl ?_
  refine wl_r (or_call (fv := []) (vs := [elp (some ⟨g, 0, none⟩) (0)]) (cs := []) en79 rfl rfl (call_o (.cons (.head) (.refl)) (fun w hw => smallGraph_c w _ _ _ g Ar nr cr bs p (Holds.keepF hAr (.refl)) (by first | rfl | assumption | (simp; done) | (simp; omega)) lAr ⟨hy.1, hy.2.1, by omega⟩ hw))) rfl rfl (kt5p rfl (fun m_5 A2_5 c2_5 es_5 q_5 h_5 => ?_))
  have hg5 := gr_of_sublist h_5.2.1.2
  have hl5 := hg5.len (by omega)
  refine wl_r (or_call (fv := []) (vs := [.agg #[.int .i64 (((m_5 : Nat) : Int)), .slice A2_5 (es_5.length) (c2_5)]]) (cs := []) en86 rfl rfl (call_x1 (fun w hw => degreesS_c w m_5 A2_5 es_5.length c2_5 es_5 ((holds_row (List.Mem.head _)) w hw) rfl h_5.2.1.1 (by omega) (by omega) hg5.inr))) rfl rfl (kt1p rfl (fun g_6 h_6 => ?_))
  refine wl_v (ov_assign rfl) rfl rfl rfl ?_
  refine wl_nil ?_
  refine ce_then ?_
  refine cw_seq ?_
  refine cw_seq ?_
  refine cw_region ?_
  refine wl_v (ov_move rfl) rfl rfl rfl ?_
  refine wl_r (or_call (fv := []) (vs := [elp (some ⟨g, 0, none⟩) (0), .int .i64 (3)]) (cs := []) en50 rfl rfl (call_o (.cons (.tail (.tail .head)) (.cons (.head) (.cons (.head) (.refl)))) (fun w hw => pick_c w _ _ _ 3 g Ar nr cr bs q_5 (Holds.keepF hAr ((.drop (.drop .refl)))) (by first | rfl | assumption | (simp; done) | (simp; omega)) lAr ⟨hy.1, hy.2.1, by omega⟩ (by first | assumption | omega | (simp; omega)) hw))) rfl rfl (kt1p rfl (fun v_8 h_8 => ?_))
  refine wl_if (ov_eql rfl rfl) rfl rfl rfl (fun c9 => ?_) (fun c9 => ?_)
  ·
    have hsm6 := degs_sm hg5.inr (by omega)
    refine wl_nil ?_
    refine ce_then ?_
    refine cw_true rfl ?_
    refine cw_seq ?_
    refine cw_region ?_
    refine wl_v (ov_move rfl) rfl rfl rfl ?_
    refine wl_v (ov_move rfl) rfl rfl rfl ?_
    refine wl_r (or_call (fv := []) (vs := [elp (some ⟨g, 0, none⟩) (0), .slice (some ⟨g_6, 0, none⟩) (m_5) (m_5)]) (cs := []) en120 rfl rfl (call_o (.cons (.head) (.cons (.head) (.cons (.head) (.refl)))) (fun w hw => lifted_c w _ _ _ g Ar nr cr bs (q_5 + 1) (some ⟨g_6, 0, none⟩) m_5 m_5 (degs m_5 es_5) (Holds.keepF hAr ((.drop .refl))) (by first | rfl | assumption | (simp; done) | (simp; omega)) lAr ⟨hy.1, hy.2.1, by omega⟩ (Nat.le_refl _) (degs_length _ _) hsm6 (by first | assumption | omega | (simp; omega)) hw))) rfl rfl (kt2p rfl (fun ys_12 q_12 h_12 => ?_))
    refine wl_v (ov_assign rfl) rfl rfl rfl ?_
    refine wl_nil ?_
    refine ce_then ?_
    refine cw_ret ?_
    refine ce_then_ret ?_
    refine ce_results (v := .slice (some ⟨g_6, 0, none⟩) (m_5) (m_5)) (res1 rfl (rv_t rfl)) (fun w' hw => ?_)
    exact ⟨some ⟨g_6, 0, none⟩, m_5, ys_12, q_12, ⟨⟨by omega, by omega, h_12.1.2⟩, by omega, by omega⟩, (by rw [h_12.1.1]), ((.consE (show row 3 1 (some ⟨g_6, 0, none⟩) (m_5) (m_5) (cells fI ys_12) = row 3 1 (some ⟨g_6, 0, none⟩) (ys_12.length) (m_5) (cells fI ys_12) by rw [h_12.1.1]) (.head) (.cons (.head) ((.drop .refl))) : Keep _ _).ss hw)⟩
  ·
    have hsm6 := degs_sm hg5.inr (by omega)
    refine wl_nil ?_
    refine ce_then ?_
    refine cw_false rfl ?_
    refine cw_skip ?_
    refine ce_then ?_
    refine cw_seq ?_
    refine cw_region ?_
    refine wl_v (ov_move rfl) rfl rfl rfl ?_
    refine wl_v (ov_assign rfl) rfl rfl rfl ?_
    refine wl_nil ?_
    refine ce_then ?_
    refine cw_ret ?_
    refine ce_results (v := .slice (some ⟨g_6, 0, none⟩) (m_5) (m_5)) (res1 rfl (rv_t rfl)) (fun w' hw => ?_)
    exact ⟨some ⟨g_6, 0, none⟩, m_5, degs m_5 es_5, q_5 + 1, ⟨⟨by rw [degs_length]; omega, by rw [degs_length]; omega, hsm6⟩, by omega, by omega⟩, (by rw [degs_length]), ((.consE (show row 3 1 (some ⟨g_6, 0, none⟩) (m_5) (m_5) (cells fI (degs m_5 es_5)) = row 3 1 (some ⟨g_6, 0, none⟩) ((degs m_5 es_5).length) (m_5) (cells fI (degs m_5 es_5)) by rw [degs_length]) (.tail .head) (.cons (.head) ((.drop .refl))) : Keep _ _).ss hw)⟩
set_option maxRecDepth 100000 in
theorem fewDegrees_c (w w0 : World) (Bd : Nat) (F : List Ent) (g : Nat) (Ar : Option Addr) (nr : Nat) (cr : Nat) (bs : List Nat) (p : Nat) (hAr : Holds (SS w0 Bd F) Ar (cells fY bs)) (eAr : bs.length = nr) (lAr : nr ≤ cr) (hy : nr ≤ 2000 ∧ (∀ x ∈ bs, x < 256) ∧ p ≤ 60000) (hss : SS w0 Bd ((blk g [.slice Ar (nr) (cr), .int .i64 (((p : Nat) : Int))] 99) :: F) w) : Calls Try.prog 54 #[elp (some ⟨g, 0, none⟩) (0)] w (Ret fun rv w' => ∃ A2 c2 ys q, ((ys.length ≤ c2 ∧ ys.length ≤ 9 ∧ Sm ys) ∧ p ≤ q ∧ q ≤ p + 500) ∧ rv = .slice A2 (ys.length) (c2) ∧ SS w0 Bd ((row 3 1 A2 (ys.length) (c2) (cells fI ys)) :: (blk g [.slice Ar (nr) (cr), .int .i64 (((q : Nat) : Int))] 99) :: F) w') := by
  refine fn_enter (args := [elp (some ⟨g, 0, none⟩) (0)]) Try.func54 rfl Try.ntmps54 rfl hss ?_
  refine cw_seq ?_
  refine cw_region ?_
  refine wl_v (ov_assign rfl) rfl rfl rfl ?_
  refine wl_nil ?_
  refine ce_then ?_
  refine cw_seq ?_
  refine cw_seq ?_
  refine cw_region ?_
  refine wl_v (ov_move rfl) rfl rfl rfl ?_
  refine wl_r (or_call (fv := []) (vs := [elp (some ⟨g, 0, none⟩) (0), .int .i64 (24)]) (cs := []) en50 rfl rfl (call_o (.cons (.head) (.refl)) (fun w hw => pick_c w _ _ _ 24 g Ar nr cr bs p (Holds.keepF hAr (.refl)) (by first | rfl | assumption | (simp; done) | (simp; omega)) lAr ⟨hy.1, hy.2.1, by omega⟩ (by first | assumption | omega | (simp; omega)) hw))) rfl rfl (kt1p rfl (fun v_4 h_4 => ?_))
  refine wl_if (ov_eql rfl rfl) rfl rfl rfl (fun c5 => ?_) (fun c5 => ?_)
  ·
    refine wl_nil ?_
    refine ce_then ?_
    refine cw_true rfl ?_
    refine cw_seq ?_
    refine cw_region ?_
    refine wl_v (ov_move rfl) rfl rfl rfl ?_
    refine wl_r (or_call (fv := []) (vs := [elp (some ⟨g, 0, none⟩) (0)]) (cs := []) en106 rfl rfl (call_o (.cons (.head) (.refl)) (fun w hw => someDegrees_c w _ _ _ g Ar nr cr bs (p + 1) (Holds.keepF hAr (.refl)) (by first | rfl | assumption | (simp; done) | (simp; omega)) lAr ⟨hy.1, hy.2.1, by omega⟩ hw))) rfl rfl (kt4p rfl (fun A2_7 c2_7 ys_7 q_7 h_7 => ?_))
    refine wl_v (ov_assign rfl) rfl rfl rfl ?_
    refine wl_nil ?_
    refine ce_then ?_
    refine cw_ret ?_
    refine ce_then_ret ?_
    refine ce_results (v := .slice A2_7 (ys_7.length) (c2_7)) (res1 rfl (rv_t rfl)) (fun w' hw => ?_)
    exact ⟨A2_7, c2_7, ys_7, q_7, ⟨⟨h_7.1.1, by omega, h_7.1.2.2⟩, by omega, by omega⟩, rfl, ((.cons (.head) (.cons (.head) (.refl)) : Keep _ _).ss hw)⟩
  ·
    refine wl_nil ?_
    refine ce_then ?_
    refine cw_false rfl ?_
    refine cw_skip ?_
    refine ce_then ?_
    refine cw_seq ?_
    refine cw_region ?_
    refine wl_v (ov_move rfl) rfl rfl rfl ?_
    refine wl_v (ov_move rfl) rfl rfl rfl ?_
    refine wl_r (or_call (fv := []) (vs := [elp (some ⟨g, 0, none⟩) (0)]) (cs := []) en108 rfl rfl (call_o (.cons (.head) (.refl)) (fun w hw => smallDegrees_c w _ _ _ g Ar nr cr bs (p + 1) (Holds.keepF hAr (.refl)) (by first | rfl | assumption | (simp; done) | (simp; omega)) lAr ⟨hy.1, hy.2.1, by omega⟩ hw))) rfl rfl (kt4p rfl (fun A2_10 c2_10 ys_10 q_10 h_10 => ?_))
    refine wl_r (or_call (fv := []) (vs := [elp (some ⟨g, 0, none⟩) (0), .slice A2_10 (ys_10.length) (c2_10)]) (cs := []) en107 rfl rfl (call_o (.cons (.tail .head) (.cons (.head) (.refl))) (fun w hw => bent_c w _ _ _ g Ar nr cr bs q_10 A2_10 ys_10.length c2_10 ys_10 (Holds.keepF hAr (.refl)) (by first | rfl | assumption | (simp; done) | (simp; omega)) lAr ⟨hy.1, hy.2.1, by omega⟩ h_10.1.1 rfl h_10.1.2.2 (by first | assumption | omega | (simp; omega)) hw))) rfl rfl (kt4p rfl (fun A2_11 c2_11 ys_11 q_11 h_11 => ?_))
    refine wl_v (ov_assign rfl) rfl rfl rfl ?_
    refine wl_nil ?_
    refine ce_then ?_
    refine cw_ret ?_
    refine ce_results (v := .slice A2_11 (ys_11.length) (c2_11)) (res1 rfl (rv_t rfl)) (fun w' hw => ?_)
    exact ⟨A2_11, c2_11, ys_11, q_11, ⟨⟨h_11.1.1, by omega, h_11.1.2.2⟩, by omega, by omega⟩, rfl, ((.cons (.head) (.cons (.head) (.refl)) : Keep _ _).ss hw)⟩
set_option maxRecDepth 100000 in
theorem DrawForcedEdges_c (w : World) (Ar : Option Addr) (nr : Nat) (cr : Nat) (bs : List (Nat)) (hAr : At w Ar (cells fY bs)) (eAr : bs.length = nr) (lAr : nr ≤ cr) (hb : ∀ x ∈ bs, x < 256) : Calls Try.prog 17 #[.slice Ar (nr) (cr)] w (Ret fun rv w' => ∃ A2 c2 ys, (ys.length ≤ c2 ∧ ys.length ≤ 20 ∧ Sm ys) ∧ rv = .slice A2 (ys.length) (c2) ∧ New w w' [row 3 1 A2 (ys.length) (c2) (cells fI ys)]) := by
  have oAr := hAr.atB
  subst eAr
  refine fn_enter (args := [.slice Ar (bs.length) (cr)]) Try.func17 rfl Try.ntmps17 rfl (SS.start w) ?_
  refine cw_seq ?_
  refine cw_region ?_
  refine wl_v (ov_assign rfl) rfl rfl rfl ?_
  refine wl_nil ?_
  refine ce_then ?_
  refine cw_seq ?_
  refine cw_region ?_
  refine wl_v (ov_move rfl) rfl rfl rfl ?_
  refine wl_r (or_call (fv := []) (vs := [.slice Ar (bs.length) (cr)]) (cs := []) en48 rfl rfl (call_x2 (fun w hw => newReader_c w Ar bs.length cr bs ((holds_old oAr) w hw) rfl lAr))) rfl rfl (kt2p rfl (fun g_4 n2_4 h_4 => ?_))
  refine wl_r (or_call (fv := []) (vs := [elp (some ⟨g_4, 0, none⟩) (0)]) (cs := []) en54 rfl rfl (call_o (.cons (.head) (.nil)) (fun w hw => fewDegrees_c w _ _ _ g_4 Ar n2_4 cr (bs.take n2_4) 0 (holds_takeC (k := n2_4) fY_len (holds_old oAr)) (by rw [List.length_take]; omega) (by omega) ⟨by omega, fun x hx => hb x (List.mem_of_mem_take hx), by omega⟩ hw))) rfl rfl (kt4p rfl (fun A2_5 c2_5 ys_5 q_5 h_5 => ?_))
  refine wl_v (ov_assign rfl) rfl rfl rfl ?_
  refine wl_nil ?_
  refine ce_then ?_
  refine cw_ret ?_
  refine ce_results (v := .slice A2_5 (ys_5.length) (c2_5)) (res1 rfl (rv_t rfl)) (fun w' hw => ?_)
  exact ⟨A2_5, c2_5, ys_5, ⟨h_5.1.1, by omega, h_5.1.2.2⟩, rfl, ((.cons (.head) (.nil) : Keep _ _).ss hw).to_new⟩
end Go.Proofs.Ytfjgfocjogfodaa.W39
