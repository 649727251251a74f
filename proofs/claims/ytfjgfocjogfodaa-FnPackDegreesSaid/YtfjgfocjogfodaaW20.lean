/- Walks of functions of the given program: each returns what its Lean function says and leaves the memory that was there as it was. Conditions: those of each theorem. -/
import Derived.Test.YtfjgfocjogfodaaSm
import Derived.Test.YtfjgfocjogfodaaProg
import Derived.Test.YtfjgfocjogfodaaPl
import Derived.Test.YtfjgfocjogfodaaPo
import Derived.Test.YtfjgfocjogfodaaPd
import Derived.Test.YtfjgfocjogfodaaPe
import Derived.Test.YtfjgfocjogfodaaPh
import Derived.Test.YtfjgfocjogfodaaPm
import Derived.Test.YtfjgfocjogfodaaPc
import Derived.Test.YtfjgfocjogfodaaPs
import Derived.Test.YtfjgfocjogfodaaPt
import Derived.Test.YtfjgfocjogfodaaPu
import Derived.Test.YtfjgfocjogfodaaPv
import Derived.Test.YtfjgfocjogfodaaPw
import Derived.Test.YtfjgfocjogfodaaT
import Derived.Test.YtfjgfocjogfodaaW1
import Derived.Test.YtfjgfocjogfodaaW6
import Derived.Test.YtfjgfocjogfodaaW17
import Derived.Test.YtfjgfocjogfodaaW18
import Derived.KernelRfl
namespace Go.Proofs.Ytfjgfocjogfodaa.W20
open Go.Sx Go.RowKit Go.Proofs.Ytfjgfocjogfodaa.T Go.Proofs.Ytfjgfocjogfodaa.W1 Go.Proofs.Ytfjgfocjogfodaa.W6 Go.Proofs.Ytfjgfocjogfodaa.W17 Go.Proofs.Ytfjgfocjogfodaa.W18
open Go.Plain
set_option linter.unusedVariables false
set_option maxRecDepth 100000 in
theorem fac1_c (w w0 : World) (Bd : Nat) (F : List Ent) (A : Option Addr) (k : Nat) (c : Nat) (xs : List Ed) (m : Nat) (go : Nat) (N0 : Int) (A0 : Option Addr) (n0 : Nat) (k0 : Nat) (gf : Nat) (f0 : Bool)  (hss : SS w0 Bd ((row 43 2 A (k) (c) (cells fE xs)) :: (blk go [.int .i64 (N0), .slice A0 (n0) (k0)] 25) :: (blk gf [.bool (f0)] 4) :: F) w) : Calls Try.prog 121 #[.agg #[.int .i64 (((m : Nat) : Int)), .slice A (k) (k)], elp (some ⟨go, 0, none⟩) (0), elp (some ⟨gf, 0, none⟩) (0)] w (Ret fun rv w' => rv = .bool false ∧ SS w0 Bd ((blk go [.int .i64 (((m : Nat) : Int)), .slice A (k) (k)] 25) :: (blk gf [.bool true] 4) :: (row 43 2 A (k) (c) (cells fE xs)) :: F) w') := by
  refine fn_enter (args := [.agg #[.int .i64 (((m : Nat) : Int)), .slice A (k) (k)], elp (some ⟨go, 0, none⟩) (0), elp (some ⟨gf, 0, none⟩) (0)]) Try.func121 rfl Try.ntmps121 rfl hss ?_
  refine cw_seq ?_
  refine cw_region ?_
  refine wl_r (or_box rfl rfl) rfl rfl (kt1 rfl (fun g3 => ?_))
  refine wl_v (ov_assign rfl) rfl rfl rfl ?_
  refine wl_nil ?_
  refine ce_then ?_
  refine cw_seq ?_
  refine cw_region ?_
  refine wl_v (ov_loadAgg (vs := [.int .i64 (((m : Nat) : Int)), .slice A (k) (k)]) tI25 (holds_blk (List.Mem.head _)) rfl some_lit rfl rfl) rfl rfl rfl ?_
  refine wl_r0 (or_store_blk (vs := [.int .i64 (((m : Nat) : Int)), .slice A (k) (k)]) (cs' := [.int .i64 (((m : Nat) : Int)), .slice A (k) (k)]) (.tail (.tail .head)) tI25 rfl rfl rfl rfl (Nat.le_of_ble_eq_true rfl) rfl) rfl rfl (kn0 ?_)
  refine wl_r0 (or_store_blk (vs := [.bool true]) (cs' := [.bool true]) (.tail (.tail (.tail .head))) tI4 rfl rfl rfl rfl (Nat.le_of_ble_eq_true rfl) rfl) rfl rfl (kn0 ?_)
  refine wl_nil ?_
  refine ce_then ?_
  refine cw_seq ?_
  refine cw_region ?_
  refine wl_v (ov_assign rfl) rfl rfl rfl ?_
  refine wl_nil ?_
  refine ce_then ?_
  refine cw_ret ?_
  refine ce_results (v := .bool false) (res1 rfl (rv_t rfl)) (fun w' hw => ?_)
  exact ⟨rfl, ((.cons (.tail .head) (.cons (.head) (.cons (.tail .head) ((.drop .refl)))) : Keep _ _).ss hw)⟩
set_option maxRecDepth 100000 in
theorem fac1h (w' w0 : World) (Bd : Nat) (F' : List Ent) (m go gf : Nat) (s : FacS) (A : Option Addr) (k c : Nat) (xs : List Ed) (hx : xs.length = k) (hw : SS w0 Bd ((row 43 2 A (k) (c) (cells fE xs)) :: facG 25 4 43 go gf s :: F') w') : Calls Try.prog 121 ([] ++ [Value.agg #[.int .i64 ((m : Nat) : Int), .slice A k k]] ++ [elp (some ⟨go, 0, none⟩) 0, elp (some ⟨gf, 0, none⟩) 0]).toArray w' (Ret fun v w'' => ∃ s', facJ m s xs s' ∧ v = .bool false ∧ SS w0 Bd (facG 25 4 43 go gf s' :: F') w'') := by
  obtain ⟨N0, A0, k0, c0, ys, f0⟩ := s
  subst hx
  have h2 : SS w0 Bd (facG 25 4 43 go gf (N0, A0, k0, c0, ys, f0) :: (row 43 2 A (xs.length) (c) (cells fE xs)) :: F') w' := (Keep.cons (.tail .head) (.cons .head .refl)).ss hw
  have h3 := ss_unbun3 h2
  have h4 := (Keep.cons (.tail (.tail (.tail .head))) (.cons .head (.cons .head (.drop .refl))) : Keep _ _).ss h3
  refine (fac1_c w' w0 Bd F' A xs.length c xs m go N0 A0 ys.length k0 gf f0 h4).mono fun _ _ ⟨v, he, hv, hss⟩ => ⟨v, he, ((m : Int), A, xs.length, c, xs, true), ⟨rfl, rfl, rfl, Nat.le_refl _⟩, hv, ss_bun3 hss⟩
set_option maxRecDepth 100000 in
theorem factor_c (w : World) (m : Nat) (A : Option Addr) (n : Nat) (c : Nat) (es : List (Int × Int)) (A1 : Option Addr) (n1 : Nat) (c1 : Nat) (ls : List (Int)) (hA : At w A (cells fE es)) (eA : es.length = n) (lA : n ≤ c) (hA1 : At w A1 (cells fI ls)) (eA1 : ls.length = n1) (lA1 : n1 ≤ c1) (hg : Gr m es) (hl : ls.length = m ∧ m ≤ 7) (hls : ∀ x ∈ ls, 0 ≤ x ∧ x ≤ 1000) : Calls Try.prog 72 #[.agg #[.int .i64 (((m : Nat) : Int)), .slice A (n) (c)], .slice A1 (n1) (c1)] w (Ret fun rv w' => ∃ N2 A2 k2 c2, ((facV es ls).1.length ≤ k2 ∧ N2 = facN m (facV es ls)) ∧ rv = .tuple #[.agg #[.int .i64 (N2), .slice A2 ((facV es ls).1.length) (k2)], .bool ((facV es ls).2)] ∧ New w w' [row 43 2 A2 ((facV es ls).1.length) (c2) (cells fE ((facV es ls).1))]) := by
  have oA := hA.atB
  subst eA
  have oA1 := hA1.atB
  subst eA1
  have hel : es.length ≤ 21 := Nat.le_trans hg.sublist.length_le (prs_small m hl.2)
  have hbd := allR_bd hel ls []
  refine fn_enter (args := [.agg #[.int .i64 (((m : Nat) : Int)), .slice A (es.length) (c)], .slice A1 (ls.length) (c1)]) Try.func72 rfl Try.ntmps72 rfl (SS.start w) ?_
  refine cw_seq ?_
  refine cw_region ?_
  refine wl_r (or_box rfl rfl) rfl rfl (kt1 rfl (fun g2 => ?_))
  refine wl_r (or_alloc tI25 rfl) rfl rfl (kt1 rfl (fun g4 => ?_))
  refine wl_v (ov_assign rfl) rfl rfl rfl ?_
  refine wl_nil ?_
  refine ce_then ?_
  refine cw_seq ?_
  refine cw_region ?_
  refine wl_r (or_alloc tI25 rfl) rfl rfl (kt1 rfl (fun g6 => ?_))
  refine wl_nil ?_
  refine ce_then ?_
  refine cw_seq ?_
  refine cw_region ?_
  refine wl_r (or_alloc tI4 rfl) rfl rfl (kt1 rfl (fun g7 => ?_))
  refine wl_r0 (or_store_blk (vs := [.bool false]) (cs' := [.bool false]) (.head) tI4 rfl rfl rfl rfl (Nat.le_of_ble_eq_true rfl) rfl) rfl rfl (kn0 ?_)
  refine wl_nil ?_
  refine ce_then ?_
  refine cw_seq ?_
  refine ct_none fE 43 2 ?_
  refine cw_region ?_
  refine wl_v (ov_fieldAddr fI25_0 some_lit rfl) rfl rfl rfl ?_
  refine wl_v (ov_load tI3 (holds_blk (List.Mem.tail _ (List.Mem.tail _ (List.Mem.tail _ (List.Mem.tail _ (List.Mem.head _)))))) rfl rfl) rfl rfl rfl ?_
  refine wl_v (ov_fieldAddr fI25_1 some_lit rfl) rfl rfl rfl ?_
  refine wl_v (ov_load tI23 (holds_blk (List.Mem.tail _ (List.Mem.tail _ (List.Mem.tail _ (List.Mem.tail _ (List.Mem.head _)))))) rfl rfl) rfl rfl rfl ?_
  refine wl_v (ov_move rfl) rfl rfl rfl ?_
  refine wl_v (ov_makeFunc (vs := #[elp (some ⟨g6, 0, none⟩) (0), elp (some ⟨g7, 0, none⟩) (0)]) rfl) rfl rfl rfl ?_
  refine ct_bun3 (.cons (.tail (.tail .head)) (.cons (.tail .head) (.cons (.head) (.cons (.head) (.cons (.head) (.nil)))))) ?_
  refine wl_r (or_call (fv := []) (vs := [.int .i64 (((m : Nat) : Int)), .slice A (es.length) (c), .slice A1 (ls.length) (c1), .func (.func 121) #[] #[elp (some ⟨g6, 0, none⟩) (0), elp (some ⟨g7, 0, none⟩) (0)]]) (cs := []) en65 rfl rfl (call_o (.cons (.head) (.cons (.head) (.cons (.head) (.nil)))) (fun w hw => sub_c w _ _ _ m A es.length c es A1 ls.length c1 ls 121 ([elp (some ⟨g6, 0, none⟩) (0), elp (some ⟨g7, 0, none⟩) (0)]) FacS (facG 25 4 43 g6 g7) (facJ m) (fun _ : FacS => 0) false ((0, none, 0, 0, [], false) : FacS) (holds_old oA) (by first | rfl | assumption | (simp; done) | (simp; omega)) lA (holds_old oA1) (by first | rfl | assumption | (simp; done) | (simp; omega)) lA1 en121 (fun s F' A k c xs' w' _ hx hw => fac1h w' _ _ F' m g6 g7 s A k c xs' hx hw) (fun _ _ _ _ => Nat.zero_le _) ⟨hel, hl.2, hl.1⟩ (fun e he => hg.inr e he) hls (by show 0 + _ ≤ _; omega) hw))) rfl rfl (kt1p rfl (fun s2_14 h_14 => ?_))
  have hF := facS_end h_14
  refine ct_unbun3 (.cons (.head) (.cons (.head) (.cons (.head) (.nil)))) (e1 := blk g6 [.int .i64 (s2_14.1), .slice s2_14.2.1 (s2_14.2.2.2.2.1.length) (s2_14.2.2.1)] 25) (e2 := blk g7 [.bool (s2_14.2.2.2.2.2)] 4) (e3 := row 43 2 s2_14.2.1 (s2_14.2.2.2.2.1.length) (s2_14.2.2.2.1) (cells fE s2_14.2.2.2.2.1)) ?_
  refine wl_nil ?_
  refine ce_then ?_
  refine cw_seq ?_
  refine cw_draw mixO [] (.cons (.head) (.cons (.head) (.cons (.head) (.cons (.tail .head) (.nil))))) rfl ?_
  refine wg_take (i := 0) rfl (ov_loadAgg (vs := [.int .i64 (s2_14.1), .slice s2_14.2.1 (s2_14.2.2.2.2.1.length) (s2_14.2.2.1)]) tI25 (holds_blk (List.Mem.head _)) rfl some_lit rfl rfl) rfl rfl rfl (by kernel_rfl) (by kernel_rfl) (by kernel_rfl) (by kernel_rfl) ?_
  refine wg_take (i := 1) rfl (ov_load tI4 (holds_blk (List.Mem.tail _ (List.Mem.head _))) rfl rfl) rfl rfl rfl (by kernel_rfl) (by kernel_rfl) (by kernel_rfl) (by kernel_rfl) ?_
  refine wg_one (i := 2) (by kernel_rfl) ?_
  refine go_r0 rfl rfl rfl rfl (or_store_blk (vs := [.int .i64 (s2_14.1), .slice s2_14.2.1 (s2_14.2.2.2.2.1.length) (s2_14.2.2.1)]) (cs' := [.int .i64 (s2_14.1), .slice s2_14.2.1 (s2_14.2.2.2.2.1.length) (s2_14.2.2.1)]) (.tail (.tail (.tail .head))) tI25 rfl rfl rfl rfl (Nat.le_of_ble_eq_true rfl) rfl) (kn0 ?_)
  refine gk (.cons (.tail .head) (.cons (.tail .head) (.cons (.tail .head) (.cons (.tail .head) (.nil))))) ?_
  refine wg_takep (i := 3) rfl (ov_assign rfl) rfl rfl rfl (by kernel_rfl) (by kernel_rfl) (by kernel_rfl) rfl ?_
  refine wg_done (by kernel_rfl) ?_
  refine ce_then ?_
  refine cw_ret ?_
  refine ce_results (v := .tuple #[.agg #[.int .i64 (s2_14.1), .slice s2_14.2.1 (s2_14.2.2.2.2.1.length) (s2_14.2.2.1)], .bool (s2_14.2.2.2.2.2)]) (res2 rfl (rv_c rfl tI25 rfl (List.Mem.head _)) (rv_t rfl)) (fun w' hw => ?_)
  exact ⟨s2_14.1, s2_14.2.1, s2_14.2.2.1, s2_14.2.2.2.1, ⟨hF.2.2.2, hF.1⟩, (by rw [hF.2.1, hF.2.2.1] <;> rfl), ((.consE (show row 43 2 s2_14.2.1 (s2_14.2.2.2.2.1.length) (s2_14.2.2.2.1) (cells fE s2_14.2.2.2.2.1) = row 43 2 s2_14.2.1 ((facV es ls).1.length) (s2_14.2.2.2.1) (cells fE ((facV es ls).1)) by rw [hF.2.1] <;> rfl) (.tail (.tail (.tail .head))) (.nil) : Keep _ _).ss hw).to_new⟩
set_option maxRecDepth 100000 in
theorem findF_c (w w0 : World) (Bd : Nat) (F : List Ent) (Al : Option Addr) (nl : Nat) (cl : Nat) (ls : List (Int)) (Ae : Option Addr) (ne : Nat) (ce : Nat) (es : List (Int × Int)) (k : Nat) (Ag : Option Addr) (ng : Nat) (kg : Nat) (cg : Nat) (ch : List Ed) (m : Nat) (hAl : Holds (SS w0 Bd F) Al (cells fI ls)) (eAl : ls.length = nl) (lAl : nl ≤ cl) (hAe : Holds (SS w0 Bd F) Ae (cells fE es)) (eAe : es.length = ne) (lAe : ne ≤ ce) (lg : ng ≤ kg) (eg : ch.length = ng) (hl : ls.length = m ∧ m ≤ 7 ∧ es.length ≤ 21 ∧ k ≤ es.length ∧ ng ≤ k) (hes : ∀ e ∈ es, OkE m e) (hso : es.Pairwise below) (hls : ∀ x ∈ ls, 0 ≤ x ∧ x ≤ 1000) (hch : ∀ x ∈ ch, ∀ e ∈ es.drop k, below x e) (hss : SS w0 Bd ((row 43 2 Ag (ng) (cg) (cells fE ch)) :: F) w) : Calls Try.prog 122 #[.agg #[.int .i64 (((m : Nat) : Int)), .slice Ag (ng) (kg)], .slice Al (nl) (cl), .slice Ae (ne) (ce), .int .i64 (((k : Nat) : Int))] w (Ret fun rv w' => ∃ N2 A2 k2 c2, ((facOf (allR (es.drop k) ls ch)).1.length ≤ k2 ∧ N2 = facN m (facOf (allR (es.drop k) ls ch))) ∧ rv = .tuple #[.agg #[.int .i64 (N2), .slice A2 ((facOf (allR (es.drop k) ls ch)).1.length) (k2)], .bool ((facOf (allR (es.drop k) ls ch)).2)] ∧ SS w0 Bd ((row 43 2 A2 ((facOf (allR (es.drop k) ls ch)).1.length) (c2) (cells fE ((facOf (allR (es.drop k) ls ch)).1))) :: F) w') := by
  subst eAl
  subst eAe
  have hsm : Small ls := ⟨by omega, fun x hx => by have := hls x hx; omega⟩
  refine fn_enter (args := [.agg #[.int .i64 (((m : Nat) : Int)), .slice Ag (ng) (kg)], .slice Al (ls.length) (cl), .slice Ae (es.length) (ce), .int .i64 (((k : Nat) : Int))]) Try.func122 rfl Try.ntmps122 rfl hss ?_
  refine cw_seq ?_
  refine cw_region ?_
  refine wl_r (or_box rfl rfl) rfl rfl (kt1 rfl (fun g4 => ?_))
  refine wl_r (or_alloc tI25 rfl) rfl rfl (kt1 rfl (fun g8 => ?_))
  refine wl_v (ov_assign rfl) rfl rfl rfl ?_
  refine wl_nil ?_
  refine ce_then ?_
  refine cw_seq ?_
  refine cw_seq ?_
  refine cw_region ?_
  refine wl_v (ov_move rfl) rfl rfl rfl ?_
  refine wl_r (or_call (fv := []) (vs := [.slice Al (ls.length) (cl)]) (cs := []) en140 rfl rfl (call_v (fun w hw => sum_c w Al ls.length cl ls ((Holds.keepF hAl ((.drop (.drop (.drop .refl))))) w hw) rfl lAl hsm))) rfl rfl (kt0 rfl ?_)
  refine wl_if (ov_eql rfl rfl) rfl rfl rfl (fun c16 => ?_) (fun c16 => ?_)
  ·
    have hz : facOf (allR (es.drop k) ls ch) = (ch, true) := congrArg facOf (allR_zero (ch := ch) (es.drop k) ((total_zero hls).1 (by omega)) (fun e he => hl.1.symm ▸ hes e (List.mem_of_mem_drop he)))
    refine wl_nil ?_
    refine ce_then ?_
    refine cw_true rfl ?_
    refine cw_seq ?_
    refine cw_region ?_
    refine wl_v (ov_loadAgg (vs := [.int .i64 (((m : Nat) : Int)), .slice Ag (ng) (kg)]) tI25 (holds_blk (List.Mem.tail _ (List.Mem.head _))) rfl some_lit rfl rfl) rfl rfl rfl ?_
    refine wl_r0 (or_store_blk (vs := [.int .i64 (((m : Nat) : Int)), .slice Ag (ng) (kg)]) (cs' := [.int .i64 (((m : Nat) : Int)), .slice Ag (ng) (kg)]) (.head) tI25 rfl rfl rfl rfl (Nat.le_of_ble_eq_true rfl) rfl) rfl rfl (kn0 ?_)
    refine wl_v (ov_assign rfl) rfl rfl rfl ?_
    refine wl_nil ?_
    refine ce_then ?_
    refine cw_ret ?_
    refine ce_then_ret ?_
    refine ce_results (v := .tuple #[.agg #[.int .i64 (((m : Nat) : Int)), .slice Ag (ng) (kg)], .bool true]) (res2 rfl (rv_c rfl tI25 rfl (List.Mem.head _)) (rv_t rfl)) (fun w' hw => ?_)
    exact ⟨((m : Nat) : Int), Ag, kg, cg, ⟨by rw [hz]; show ch.length ≤ kg; omega, by rw [hz]; rfl⟩, (by rw [hz, ← eg] <;> rfl), ((.consE (show row 43 2 Ag (ng) (cg) (cells fE ch) = row 43 2 Ag ((facOf (allR (es.drop k) ls ch)).1.length) (cg) (cells fE ((facOf (allR (es.drop k) ls ch)).1)) by rw [hz, ← eg] <;> rfl) (.tail (.tail .head)) ((.drop (.drop .refl))) : Keep _ _).ss hw)⟩
  ·
    refine wl_nil ?_
    refine ce_then ?_
    refine cw_false rfl ?_
    refine cw_skip ?_
    refine ce_then ?_
    refine cw_seq ?_
    refine cw_seq ?_
    refine cw_region ?_
    refine wl_v (ov_move rfl) rfl rfl rfl ?_
    refine wl_v (ov_move rfl) rfl rfl rfl ?_
    refine wl_v (ov_len (sliceI_spec sI23) rfl) rfl rfl rfl ?_
    refine wl_if (ov_eql rfl rfl) rfl rfl rfl (fun c21 => ?_) (fun c21 => ?_)
    ·
      have hz : facOf (allR (es.drop k) ls ch) = ([], false) := congrArg facOf ((allR_end (by omega) ls ch).trans (if_neg (fun h => c16 ((total_zero hls).2 h))))
      refine wl_nil ?_
      refine ce_then ?_
      refine cw_true rfl ?_
      refine cw_seq ?_
      refine ct_none fE 43 2 ?_
      refine cw_region ?_
      refine wl_v (ov_build (is := []) (vs := []) (v := .agg #[.int .i64 (0), .slice none (0) (0)]) rfl rfl (fun _ => by kernel_rfl)) rfl rfl rfl ?_
      refine wl_r0 (or_store_blk (vs := [.int .i64 (0), .slice none (0) (0)]) (cs' := [.int .i64 (0), .slice none (0) (0)]) (.tail .head) tI25 rfl rfl rfl rfl (Nat.le_of_ble_eq_true rfl) rfl) rfl rfl (kn0 ?_)
      refine wl_v (ov_assign rfl) rfl rfl rfl ?_
      refine wl_nil ?_
      refine ce_then ?_
      refine cw_ret ?_
      refine ce_then_ret ?_
      refine ce_results (v := .tuple #[.agg #[.int .i64 (0), .slice none (0) (0)], .bool false]) (res2 rfl (rv_c rfl tI25 rfl (List.Mem.head _)) (rv_t rfl)) (fun w' hw => ?_)
      exact ⟨0, none, 0, 0, ⟨by rw [hz]; exact Nat.le_refl _, by rw [hz]; rfl⟩, (by rw [hz] <;> rfl), ((.consE (show row 43 2 none (0) (0) (cells fE ([])) = row 43 2 none ((facOf (allR (es.drop k) ls ch)).1.length) (0) (cells fE ((facOf (allR (es.drop k) ls ch)).1)) by rw [hz] <;> rfl) (.tail .head) ((.drop (.drop (.drop .refl)))) : Keep _ _).ss hw)⟩
    ·
      refine wl_nil ?_
      refine ce_then ?_
      refine cw_false rfl ?_
      refine cw_skip ?_
      refine ce_then ?_
      refine cw_seq ?_
      refine cw_region ?_
      refine wl_v (ov_move rfl) rfl rfl rfl ?_
      refine wl_v (ov_move rfl) rfl rfl rfl ?_
      refine wl_v (ov_index (k := k) (c := ce) sI23 tI43 rfl rfl (some_holds (q := k * 2) (Holds.keepF hAe ((.drop (.drop (.drop .refl))))) (by rw [cells_length fE_len]; have hlt : k < es.length := (by first | omega | (rw [List.length_set]; omega)); omega)) (show k < es.length from (by first | omega | (rw [List.length_set]; omega)))) rfl rfl rfl ?_
      refine wl_v (ov_loadAgg (vs := [.int .i64 ((es.getD k (0, 0)).1), .int .i64 ((es.getD k (0, 0)).2)]) tI43 (Holds.keepF hAe ((.drop (.drop (.drop .refl))))) rfl (some_holds (q := k * 2) (Holds.keepF hAe ((.drop (.drop (.drop .refl))))) (by rw [cells_length fE_len]; have hlt : k < es.length := (by first | omega | (rw [List.length_set]; omega)); omega)) (cells_elem fE_len (0, 0) (show k < es.length from (by first | omega | (rw [List.length_set]; omega)))) rfl) rfl rfl rfl ?_
      have hei := hes _ (getD_mem (xs := es) (k := k) (0, 0) (by omega))
      obtain ⟨he1, he2, he3⟩ := id hei
      have hla := hls _ (getD_mem (xs := ls) (k := (es.getD k (0, 0)).1.toNat) 0 (by omega))
      have hlb := hls _ (getD_mem (xs := ls) (k := (es.getD k (0, 0)).2.toNat) 0 (by omega))
      refine wl_r (or_alloc tI43 rfl) rfl rfl (kt1 rfl (fun g10 => ?_))
      refine wl_r0 (or_store_blk (vs := [.int .i64 ((es.getD k (0, 0)).1), .int .i64 ((es.getD k (0, 0)).2)]) (cs' := [.int .i64 ((es.getD k (0, 0)).1), .int .i64 ((es.getD k (0, 0)).2)]) (.head) tI43 rfl rfl rfl rfl (Nat.le_of_ble_eq_true rfl) rfl) rfl rfl (kn0 ?_)
      refine wl_nil ?_
      refine ce_then ?_
      refine cw_seq ?_
      refine cw_seq ?_
      refine cw_region ?_
      refine wl_v (ov_move rfl) rfl rfl rfl ?_
      refine wl_v (ov_fieldAddr fI43_0 some_lit rfl) rfl rfl rfl ?_
      refine wl_v (ov_load tI3 (holds_blk (List.Mem.head _)) rfl rfl) rfl rfl rfl ?_
      refine ct_keep (L' := [(0, .agg #[.int .i64 (((m : Nat) : Int)), .slice Ag (ng) (kg)]), (1, .slice Al (ls.length) (cl)), (2, .slice Ae (es.length) (ce)), (3, .int .i64 (((k : Nat) : Int))), (4, elp (some ⟨g4, 0, none⟩) (0)), (8, elp (some ⟨g8, 0, none⟩) (0)), (9, .bool false), (10, elp (some ⟨g10, 0, none⟩) (0)), (14, .slice Al (ls.length) (cl)), (15, .int .i64 (total ls)), (16, .bool false), (18, .int .i64 (((k : Nat) : Int))), (19, .slice Ae (es.length) (ce)), (20, .int .i64 (((es.length : Nat) : Int))), (21, .bool false), (23, .slice Ae (es.length) (ce)), (24, .int .i64 (((k : Nat) : Int))), (25, elp Ae (k * 2)), (26, .agg #[.int .i64 ((es.getD k (0, 0)).1), .int .i64 ((es.getD k (0, 0)).2)]), (27, .slice Al (ls.length) (cl)), (28, elp (some ⟨g10, 0, none⟩) (0)), (29, .int .i64 ((((es.getD k (0, 0)).1.toNat : Nat) : Int)))]) (.cons rfl (.cons rfl (.cons rfl (.cons rfl (.cons rfl (.cons rfl (.cons rfl (.cons rfl (.cons rfl (.cons rfl (.cons rfl (.cons rfl (.cons rfl (.cons rfl (.cons rfl (.cons rfl (.cons rfl (.cons rfl (.cons rfl (.cons rfl (.cons rfl (.cons (congrArg (fun z => some (Value.int .i64 z)) (show ((es.getD k (0, 0)).1) = (((es.getD k (0, 0)).1.toNat : Nat) : Int) from (by omega))) (.nil))))))))))))))))))))))) .refl ?_
      refine wl_v (ov_slice_h (h := (es.getD k (0, 0)).1.toNat) sI31 tI3 rfl rfl (by omega)) rfl rfl rfl ?_
      refine wl_r (or_call (fv := []) (vs := [.slice Al ((es.getD k (0, 0)).1.toNat) (cl)]) (cs := []) en140 rfl rfl (call_v (fun w hw => sum_c w Al ((es.getD k (0, 0)).1.toNat) cl (ls.take ((es.getD k (0, 0)).1.toNat)) ((holds_takeC (k := ((es.getD k (0, 0)).1.toNat)) fI_len (Holds.keepF hAl ((.drop (.drop (.drop (.drop .refl))))))) w hw) (by rw [List.length_take]; omega) (by omega) (hsm.take _)))) rfl rfl (kt0 rfl ?_)
      refine wl_if (ov_gtr rfl rfl) rfl rfl rfl (fun c32 => ?_) (fun c32 => ?_)
      ·
        have hz : facOf (allR (es.drop k) ls ch) = ([], false) := congrArg facOf (allR_behind hso hes hl.1 (by omega) (by omega))
        refine wl_nil ?_
        refine ce_then ?_
        refine cw_true rfl ?_
        refine cw_seq ?_
        refine ct_none fE 43 2 ?_
        refine cw_region ?_
        refine wl_v (ov_build (is := []) (vs := []) (v := .agg #[.int .i64 (0), .slice none (0) (0)]) rfl rfl (fun _ => by kernel_rfl)) rfl rfl rfl ?_
        refine wl_r0 (or_store_blk (vs := [.int .i64 (0), .slice none (0) (0)]) (cs' := [.int .i64 (0), .slice none (0) (0)]) (.tail (.tail .head)) tI25 rfl rfl rfl rfl (Nat.le_of_ble_eq_true rfl) rfl) rfl rfl (kn0 ?_)
        refine wl_v (ov_assign rfl) rfl rfl rfl ?_
        refine wl_nil ?_
        refine ce_then ?_
        refine cw_ret ?_
        refine ce_then_ret ?_
        refine ce_results (v := .tuple #[.agg #[.int .i64 (0), .slice none (0) (0)], .bool false]) (res2 rfl (rv_c rfl tI25 rfl (List.Mem.head _)) (rv_t rfl)) (fun w' hw => ?_)
        exact ⟨0, none, 0, 0, ⟨by rw [hz]; exact Nat.le_refl _, by rw [hz]; rfl⟩, (by rw [hz] <;> rfl), ((.consE (show row 43 2 none (0) (0) (cells fE ([])) = row 43 2 none ((facOf (allR (es.drop k) ls ch)).1.length) (0) (cells fE ((facOf (allR (es.drop k) ls ch)).1)) by rw [hz] <;> rfl) (.tail .head) ((.drop (.drop (.drop (.drop .refl))))) : Keep _ _).ss hw)⟩
      ·
        refine wl_nil ?_
        refine ce_then ?_
        refine cw_false rfl ?_
        refine cw_skip ?_
        refine ce_then ?_
        refine cw_seq ?_
        refine cw_seq ?_
        refine cw_region ?_
        refine wl_v (ov_move rfl) rfl rfl rfl ?_
        refine wl_v (ov_fieldAddr fI43_0 some_lit rfl) rfl rfl rfl ?_
        refine wl_v (ov_load tI3 (holds_blk (List.Mem.head _)) rfl rfl) rfl rfl rfl ?_
        refine wl_v (ov_indexg sI31 tI3 rfl rfl (some_holds (q := (((es.getD k (0, 0)).1).toNat) * 1) (Holds.keepF hAl ((.drop (.drop (.drop (.drop .refl)))))) (by rw [cells_length fI_len]; have hlt : ((es.getD k (0, 0)).1).toNat < ls.length := (by first | omega | (rw [List.length_set]; omega)); omega)) (by first | omega | (rw [List.length_set]; omega)) (show ((es.getD k (0, 0)).1).toNat < ls.length from (by first | omega | (rw [List.length_set]; omega)))) rfl rfl rfl ?_
        refine wl_v (ov_load tI3 (Holds.keepF hAl ((.drop (.drop (.drop (.drop .refl)))))) rfl (get_fI (show ((es.getD k (0, 0)).1).toNat < ls.length from (by first | omega | (rw [List.length_set]; omega))))) rfl rfl rfl ?_
        refine wl_if (ov_gtr rfl rfl) rfl rfl rfl (fun c39 => ?_) (fun c39 => ?_)
        ·
          refine wl_v (ov_move rfl) rfl rfl rfl ?_
          refine wl_go rfl rfl ?_
          refine wl_v (ov_move rfl) rfl rfl rfl ?_
          refine wl_go rfl rfl ?_
          refine wl_v (ov_fieldAddr fI43_1 some_lit rfl) rfl rfl rfl ?_
          refine wl_go rfl rfl ?_
          refine wl_v (ov_load tI3 (holds_blk (List.Mem.head _)) rfl rfl) rfl rfl rfl ?_
          refine wl_go rfl rfl ?_
          refine wl_v (ov_indexg sI31 tI3 rfl rfl (some_holds (q := (((es.getD k (0, 0)).2).toNat) * 1) (Holds.keepF hAl ((.drop (.drop (.drop (.drop .refl)))))) (by rw [cells_length fI_len]; have hlt : ((es.getD k (0, 0)).2).toNat < ls.length := (by first | omega | (rw [List.length_set]; omega)); omega)) (by first | omega | (rw [List.length_set]; omega)) (show ((es.getD k (0, 0)).2).toNat < ls.length from (by first | omega | (rw [List.length_set]; omega)))) rfl rfl rfl ?_
          refine wl_go rfl rfl ?_
          refine wl_v (ov_load tI3 (Holds.keepF hAl ((.drop (.drop (.drop (.drop .refl)))))) rfl (get_fI (show ((es.getD k (0, 0)).2).toNat < ls.length from (by first | omega | (rw [List.length_set]; omega))))) rfl rfl rfl ?_
          refine wl_go rfl rfl ?_
          refine wl_if (ov_gtr rfl rfl) rfl rfl rfl (fun c46 => ?_) (fun c46 => ?_)
          ·
            have hmay : mayE ls (es.getD k (0, 0)) := ⟨by omega, by omega⟩
            have hz0 : allR (es.drop k) ls ch = allR (es.drop (k + 1)) (decE ls (es.getD k (0, 0))) (ch ++ [es.getD k (0, 0)]) ++ allR (es.drop (k + 1)) ls ch := allR_yes (by omega) hmay
            have hdb := decE_bd (hl.1.symm ▸ hei) hmay hls
            have hdl := decE_length ls (es.getD k (0, 0))
            have hsn : (ls.set (es.getD k (0, 0)).1.toNat (ls.getD (es.getD k (0, 0)).1.toNat 0 - 1)).getD (es.getD k (0, 0)).2.toNat 0 = ls.getD (es.getD k (0, 0)).2.toNat 0 := getD_set_neI (by omega)
            refine wl_v (ov_pick_t rfl rfl) rfl rfl rfl ?_
            refine wl_nil ?_
            refine ce_then ?_
            refine cw_true rfl ?_
            refine cw_seq ?_
            refine cw_region ?_
            refine wl_v (ov_move rfl) rfl rfl rfl ?_
            refine wl_r (or_call (fv := []) (vs := [.slice Al (ls.length) (cl)]) (cs := []) en99 rfl rfl (call_x2 (fun w hw => copyInts_c w Al ls.length cl ls ((Holds.keepF hAl ((.drop (.drop (.drop (.drop .refl)))))) w hw) rfl lAl (by omega)))) rfl rfl (kt2p rfl (fun A2_49 c2_49 h_49 => ?_))
            refine wl_v (ov_assign rfl) rfl rfl rfl ?_
            refine wl_nil ?_
            refine ce_then ?_
            refine cw_seq ?_
            refine cw_draw mixO [10] (.cons (.head) (.cons (.head) (.cons (.head) (.cons (.head) (.cons (.head) (.refl)))))) rfl ?_
            refine wg_takep (i := 0) rfl (ov_move rfl) rfl rfl rfl (by kernel_rfl) (by kernel_rfl) (by kernel_rfl) rfl ?_
            refine wg_take (i := 1) rfl (ov_fieldAddr fI43_0 some_lit rfl) rfl rfl rfl (by kernel_rfl) (by kernel_rfl) (by kernel_rfl) (by kernel_rfl) ?_
            refine wg_take (i := 2) rfl (ov_load tI3 (holds_blk (List.Mem.tail _ (List.Mem.head _))) rfl rfl) rfl rfl rfl (by kernel_rfl) (by kernel_rfl) (by kernel_rfl) (by kernel_rfl) ?_
            refine wg_takep (i := 3) rfl (ov_move rfl) rfl rfl rfl (by kernel_rfl) (by kernel_rfl) (by kernel_rfl) rfl ?_
            refine wg_take (i := 4) rfl (ov_fieldAddr fI43_0 some_lit rfl) rfl rfl rfl (by kernel_rfl) (by kernel_rfl) (by kernel_rfl) (by kernel_rfl) ?_
            refine wg_take (i := 5) rfl (ov_load tI3 (holds_blk (List.Mem.tail _ (List.Mem.head _))) rfl rfl) rfl rfl rfl (by kernel_rfl) (by kernel_rfl) (by kernel_rfl) (by kernel_rfl) ?_
            refine wg_take (i := 6) rfl (ov_indexg sI31 tI3 rfl rfl (some_holds (q := (((es.getD k (0, 0)).1).toNat) * 1) (holds_row (List.Mem.head _)) (by rw [cells_length fI_len]; have hlt : ((es.getD k (0, 0)).1).toNat < ls.length := (by first | omega | (rw [List.length_set]; omega)); omega)) (by first | omega | (rw [List.length_set]; omega)) (show ((es.getD k (0, 0)).1).toNat < ls.length from (by first | omega | (rw [List.length_set]; omega)))) rfl rfl rfl (by kernel_rfl) (by kernel_rfl) (by kernel_rfl) (by kernel_rfl) ?_
            refine wg_take (i := 7) rfl (ov_load tI3 (holds_row (List.Mem.head _)) rfl (get_fI (show ((es.getD k (0, 0)).1).toNat < ls.length from (by first | omega | (rw [List.length_set]; omega))))) rfl rfl rfl (by kernel_rfl) (by kernel_rfl) (by kernel_rfl) (by kernel_rfl) ?_
            refine wg_takep (i := 8) rfl (ov_sub (r := (ls.getD (((es.getD k (0, 0)).1).toNat) 0) - 1) rfl rfl rfl (by omega)) rfl rfl rfl (by kernel_rfl) (by kernel_rfl) (by kernel_rfl) rfl ?_
            refine wg_take (i := 9) rfl (ov_indexg sI31 tI3 rfl rfl (some_holds (q := (((es.getD k (0, 0)).1).toNat) * 1) (holds_row (List.Mem.head _)) (by rw [cells_length fI_len]; have hlt : ((es.getD k (0, 0)).1).toNat < ls.length := (by first | omega | (rw [List.length_set]; omega)); omega)) (by first | omega | (rw [List.length_set]; omega)) (show ((es.getD k (0, 0)).1).toNat < ls.length from (by first | omega | (rw [List.length_set]; omega)))) rfl rfl rfl (by kernel_rfl) (by kernel_rfl) (by kernel_rfl) (by kernel_rfl) ?_
            refine wg_one (i := 10) (by kernel_rfl) ?_
            refine go_late0 rfl rfl rfl rfl (or_store_row (vs := [.int .i64 ((ls.getD (((es.getD k (0, 0)).1).toNat) 0) - 1)]) (cs' := cells fI (ls.set (((es.getD k (0, 0)).1).toNat) ((ls.getD (((es.getD k (0, 0)).1).toNat) 0) - 1))) (.head) tI3 rfl rfl rfl rfl (by rw [cells_length fI_len]; have hlt := (show ((es.getD k (0, 0)).1).toNat < ls.length from (by first | omega | (rw [List.length_set]; omega))); simp only [List.length_cons, List.length_nil]; omega) (by simp) (cells_splice fI_len (show ((es.getD k (0, 0)).1).toNat < ls.length from (by first | omega | (rw [List.length_set]; omega))) ((ls.getD (((es.getD k (0, 0)).1).toNat) 0) - 1))) (kn0 ?_)
            refine wa_done (by kernel_rfl) ?_
            refine ce_then ?_
            refine cw_seq ?_
            refine cw_draw mixO [10] (.cons (.head) (.cons (.head) (.cons (.head) (.cons (.head) (.cons (.head) (.refl)))))) rfl ?_
            refine wg_takep (i := 0) rfl (ov_move rfl) rfl rfl rfl (by kernel_rfl) (by kernel_rfl) (by kernel_rfl) rfl ?_
            refine wg_take (i := 1) rfl (ov_fieldAddr fI43_1 some_lit rfl) rfl rfl rfl (by kernel_rfl) (by kernel_rfl) (by kernel_rfl) (by kernel_rfl) ?_
            refine wg_take (i := 2) rfl (ov_load tI3 (holds_blk (List.Mem.tail _ (List.Mem.head _))) rfl rfl) rfl rfl rfl (by kernel_rfl) (by kernel_rfl) (by kernel_rfl) (by kernel_rfl) ?_
            refine wg_takep (i := 3) rfl (ov_move rfl) rfl rfl rfl (by kernel_rfl) (by kernel_rfl) (by kernel_rfl) rfl ?_
            refine wg_take (i := 4) rfl (ov_fieldAddr fI43_1 some_lit rfl) rfl rfl rfl (by kernel_rfl) (by kernel_rfl) (by kernel_rfl) (by kernel_rfl) ?_
            refine wg_take (i := 5) rfl (ov_load tI3 (holds_blk (List.Mem.tail _ (List.Mem.head _))) rfl rfl) rfl rfl rfl (by kernel_rfl) (by kernel_rfl) (by kernel_rfl) (by kernel_rfl) ?_
            refine wg_take (i := 6) rfl (ov_indexg sI31 tI3 rfl rfl (some_holds (q := (((es.getD k (0, 0)).2).toNat) * 1) (holds_row (List.Mem.head _)) (by rw [cells_length fI_len]; have hlt : ((es.getD k (0, 0)).2).toNat < (ls.set (((es.getD k (0, 0)).1).toNat) ((ls.getD (((es.getD k (0, 0)).1).toNat) 0) - 1)).length := (by first | omega | (rw [List.length_set]; omega)); omega)) (by first | omega | (rw [List.length_set]; omega)) (show ((es.getD k (0, 0)).2).toNat < ls.length from (by first | omega | (rw [List.length_set]; omega)))) rfl rfl rfl (by kernel_rfl) (by kernel_rfl) (by kernel_rfl) (by kernel_rfl) ?_
            refine wg_take (i := 7) rfl (ov_load tI3 (holds_row (List.Mem.head _)) rfl (get_fI (show ((es.getD k (0, 0)).2).toNat < (ls.set (((es.getD k (0, 0)).1).toNat) ((ls.getD (((es.getD k (0, 0)).1).toNat) 0) - 1)).length from (by first | omega | (rw [List.length_set]; omega))))) rfl rfl rfl (by kernel_rfl) (by kernel_rfl) (by kernel_rfl) (by kernel_rfl) ?_
            refine wg_takep (i := 8) rfl (ov_sub (r := ((ls.set (((es.getD k (0, 0)).1).toNat) ((ls.getD (((es.getD k (0, 0)).1).toNat) 0) - 1)).getD (((es.getD k (0, 0)).2).toNat) 0) - 1) rfl rfl rfl (by omega)) rfl rfl rfl (by kernel_rfl) (by kernel_rfl) (by kernel_rfl) rfl ?_
            refine wg_take (i := 9) rfl (ov_indexg sI31 tI3 rfl rfl (some_holds (q := (((es.getD k (0, 0)).2).toNat) * 1) (holds_row (List.Mem.head _)) (by rw [cells_length fI_len]; have hlt : ((es.getD k (0, 0)).2).toNat < (ls.set (((es.getD k (0, 0)).1).toNat) ((ls.getD (((es.getD k (0, 0)).1).toNat) 0) - 1)).length := (by first | omega | (rw [List.length_set]; omega)); omega)) (by first | omega | (rw [List.length_set]; omega)) (show ((es.getD k (0, 0)).2).toNat < ls.length from (by first | omega | (rw [List.length_set]; omega)))) rfl rfl rfl (by kernel_rfl) (by kernel_rfl) (by kernel_rfl) (by kernel_rfl) ?_
            refine wg_one (i := 10) (by kernel_rfl) ?_
            refine go_late0 rfl rfl rfl rfl (or_store_row (vs := [.int .i64 (((ls.set (((es.getD k (0, 0)).1).toNat) ((ls.getD (((es.getD k (0, 0)).1).toNat) 0) - 1)).getD (((es.getD k (0, 0)).2).toNat) 0) - 1)]) (cs' := cells fI ((ls.set (((es.getD k (0, 0)).1).toNat) ((ls.getD (((es.getD k (0, 0)).1).toNat) 0) - 1)).set (((es.getD k (0, 0)).2).toNat) (((ls.set (((es.getD k (0, 0)).1).toNat) ((ls.getD (((es.getD k (0, 0)).1).toNat) 0) - 1)).getD (((es.getD k (0, 0)).2).toNat) 0) - 1))) (.head) tI3 rfl rfl rfl rfl (by rw [cells_length fI_len]; have hlt := (show ((es.getD k (0, 0)).2).toNat < (ls.set (((es.getD k (0, 0)).1).toNat) ((ls.getD (((es.getD k (0, 0)).1).toNat) 0) - 1)).length from (by first | omega | (rw [List.length_set]; omega))); simp only [List.length_cons, List.length_nil]; omega) (by simp) (cells_splice fI_len (show ((es.getD k (0, 0)).2).toNat < (ls.set (((es.getD k (0, 0)).1).toNat) ((ls.getD (((es.getD k (0, 0)).1).toNat) 0) - 1)).length from (by first | omega | (rw [List.length_set]; omega))) (((ls.set (((es.getD k (0, 0)).1).toNat) ((ls.getD (((es.getD k (0, 0)).1).toNat) 0) - 1)).getD (((es.getD k (0, 0)).2).toNat) 0) - 1))) (kn0 ?_)
            refine wa_done (by kernel_rfl) ?_
            refine ce_then ?_
            refine cw_seq ?_
            refine ct_keep (L' := [(0, .agg #[.int .i64 (((m : Nat) : Int)), .slice Ag (ng) (kg)]), (1, .slice Al (ls.length) (cl)), (2, .slice Ae (es.length) (ce)), (3, .int .i64 (((k : Nat) : Int))), (4, elp (some ⟨g4, 0, none⟩) (0)), (8, elp (some ⟨g8, 0, none⟩) (0)), (9, .bool false), (10, elp (some ⟨g10, 0, none⟩) (0)), (11, .slice A2_49 (ls.length) (c2_49)), (14, .slice Al (ls.length) (cl)), (15, .int .i64 (total ls)), (16, .bool false), (18, .int .i64 (((k : Nat) : Int))), (19, .slice Ae (es.length) (ce)), (20, .int .i64 (((es.length : Nat) : Int))), (21, .bool false), (23, .slice Ae (es.length) (ce)), (24, .int .i64 (((k : Nat) : Int))), (25, elp Ae (k * 2)), (26, .agg #[.int .i64 ((es.getD k (0, 0)).1), .int .i64 ((es.getD k (0, 0)).2)]), (27, .slice Al (ls.length) (cl)), (28, elp (some ⟨g10, 0, none⟩) (0)), (29, .int .i64 ((((es.getD k (0, 0)).1.toNat : Nat) : Int))), (30, .slice Al ((es.getD k (0, 0)).1.toNat) (cl)), (31, .int .i64 (total (ls.take ((es.getD k (0, 0)).1.toNat)))), (32, .bool false), (34, .slice Al (ls.length) (cl)), (35, elp (some ⟨g10, 0, none⟩) (0)), (36, .int .i64 ((es.getD k (0, 0)).1)), (37, elp Al ((((es.getD k (0, 0)).1).toNat) * 1)), (38, .int .i64 ((ls.getD (((es.getD k (0, 0)).1).toNat) 0))), (39, .bool true), (40, .bool true), (41, .slice Al (ls.length) (cl)), (42, elp (some ⟨g10, 0, none⟩) (1)), (43, .int .i64 ((es.getD k (0, 0)).2)), (44, elp Al ((((es.getD k (0, 0)).2).toNat) * 1)), (45, .int .i64 ((ls.getD (((es.getD k (0, 0)).2).toNat) 0))), (46, .bool true), (47, .bool true), (48, .slice Al (ls.length) (cl)), (49, .slice A2_49 (ls.length) (c2_49)), (50, .slice A2_49 (ls.length) (c2_49)), (51, elp (some ⟨g10, 0, none⟩) (0)), (52, .int .i64 ((es.getD k (0, 0)).1)), (53, .slice A2_49 (ls.length) (c2_49)), (54, elp (some ⟨g10, 0, none⟩) (0)), (55, .int .i64 ((es.getD k (0, 0)).1)), (56, elp A2_49 ((((es.getD k (0, 0)).1).toNat) * 1)), (57, .int .i64 ((ls.getD (((es.getD k (0, 0)).1).toNat) 0))), (58, .int .i64 ((ls.getD (((es.getD k (0, 0)).1).toNat) 0) - 1)), (59, elp A2_49 ((((es.getD k (0, 0)).1).toNat) * 1)), (60, .slice A2_49 (ls.length) (c2_49)), (61, elp (some ⟨g10, 0, none⟩) (1)), (62, .int .i64 ((es.getD k (0, 0)).2)), (63, .slice A2_49 (ls.length) (c2_49)), (64, elp (some ⟨g10, 0, none⟩) (1)), (65, .int .i64 ((es.getD k (0, 0)).2)), (66, elp A2_49 ((((es.getD k (0, 0)).2).toNat) * 1)), (67, .int .i64 (((ls.set (((es.getD k (0, 0)).1).toNat) ((ls.getD (((es.getD k (0, 0)).1).toNat) 0) - 1)).getD (((es.getD k (0, 0)).2).toNat) 0))), (68, .int .i64 (((ls.set (((es.getD k (0, 0)).1).toNat) ((ls.getD (((es.getD k (0, 0)).1).toNat) 0) - 1)).getD (((es.getD k (0, 0)).2).toNat) 0) - 1)), (69, elp A2_49 ((((es.getD k (0, 0)).2).toNat) * 1))]) (.cons rfl (.cons rfl (.cons rfl (.cons rfl (.cons rfl (.cons rfl (.cons rfl (.cons rfl (.cons rfl (.cons rfl (.cons rfl (.cons rfl (.cons rfl (.cons rfl (.cons rfl (.cons rfl (.cons rfl (.cons rfl (.cons rfl (.cons rfl (.cons rfl (.cons rfl (.cons rfl (.cons rfl (.cons rfl (.cons rfl (.cons rfl (.cons rfl (.cons rfl (.cons rfl (.cons rfl (.cons rfl (.cons rfl (.cons rfl (.cons rfl (.cons rfl (.cons rfl (.cons rfl (.cons rfl (.cons rfl (.cons rfl (.cons rfl (.cons rfl (.cons rfl (.cons rfl (.cons rfl (.cons rfl (.cons rfl (.cons rfl (.cons rfl (.cons rfl (.cons rfl (.cons rfl (.cons rfl (.cons rfl (.cons rfl (.cons rfl (.cons rfl (.cons rfl (.cons rfl (.cons rfl (.cons rfl (.nil))))))))))))))))))))))))))))))))))))))))))))))))))))))))))))))) (.consE (show row 3 1 A2_49 (ls.length) (c2_49) (cells fI ((ls.set (((es.getD k (0, 0)).1).toNat) ((ls.getD (((es.getD k (0, 0)).1).toNat) 0) - 1)).set (((es.getD k (0, 0)).2).toNat) (((ls.set (((es.getD k (0, 0)).1).toNat) ((ls.getD (((es.getD k (0, 0)).1).toNat) 0) - 1)).getD (((es.getD k (0, 0)).2).toNat) 0) - 1))) = row 3 1 A2_49 (ls.length) (c2_49) (cells fI (decE ls (es.getD k (0, 0)))) by rfl) (.head) (.cons (.head) (.cons (.head) (.cons (.head) (.cons (.head) (.refl)))))) ?_
            refine cw_region ?_
            refine wl_v (ov_loadAgg (vs := [.int .i64 (((m : Nat) : Int)), .slice Ag (ng) (kg)]) tI25 (holds_blk (List.Mem.tail _ (List.Mem.tail _ (List.Mem.tail _ (List.Mem.head _))))) rfl some_lit rfl rfl) rfl rfl rfl ?_
            refine wl_v (ov_fieldAddr fI43_0 some_lit rfl) rfl rfl rfl ?_
            refine wl_v (ov_load tI3 (holds_blk (List.Mem.tail _ (List.Mem.head _))) rfl rfl) rfl rfl rfl ?_
            refine wl_v (ov_fieldAddr fI43_1 some_lit rfl) rfl rfl rfl ?_
            refine wl_v (ov_load tI3 (holds_blk (List.Mem.tail _ (List.Mem.head _))) rfl rfl) rfl rfl rfl ?_
            refine wl_r (or_call (fv := []) (vs := [.agg #[.int .i64 (((m : Nat) : Int)), .slice Ag (ng) (kg)], .int .i64 ((es.getD k (0, 0)).1), .int .i64 ((es.getD k (0, 0)).2)]) (cs := []) en128 rfl rfl (call_x2 (fun w hw => addEdge_c w m Ag ng kg ch ((es.getD k (0, 0)).1) ((es.getD k (0, 0)).2) ((holds_row (List.Mem.tail _ (List.Mem.tail _ (List.Mem.tail _ (List.Mem.tail _ (List.Mem.head _)))))) w hw) eg lg (by omega) (by omega) (fun x hx => hch x hx _ (by rw [drop_getD (0, 0) (show k < es.length by omega)]; simp))))) rfl rfl (kt2p rfl (fun A2_76 c2_76 h_76 => ?_))
            refine ct_keep (L' := [(0, .agg #[.int .i64 (((m : Nat) : Int)), .slice Ag (ng) (kg)]), (1, .slice Al (ls.length) (cl)), (2, .slice Ae (es.length) (ce)), (3, .int .i64 (((k : Nat) : Int))), (4, elp (some ⟨g4, 0, none⟩) (0)), (8, elp (some ⟨g8, 0, none⟩) (0)), (9, .bool false), (10, elp (some ⟨g10, 0, none⟩) (0)), (11, .slice A2_49 (ls.length) (c2_49)), (14, .slice Al (ls.length) (cl)), (15, .int .i64 (total ls)), (16, .bool false), (18, .int .i64 (((k : Nat) : Int))), (19, .slice Ae (es.length) (ce)), (20, .int .i64 (((es.length : Nat) : Int))), (21, .bool false), (23, .slice Ae (es.length) (ce)), (24, .int .i64 (((k : Nat) : Int))), (25, elp Ae (k * 2)), (26, .agg #[.int .i64 ((es.getD k (0, 0)).1), .int .i64 ((es.getD k (0, 0)).2)]), (27, .slice Al (ls.length) (cl)), (28, elp (some ⟨g10, 0, none⟩) (0)), (29, .int .i64 ((((es.getD k (0, 0)).1.toNat : Nat) : Int))), (30, .slice Al ((es.getD k (0, 0)).1.toNat) (cl)), (31, .int .i64 (total (ls.take ((es.getD k (0, 0)).1.toNat)))), (32, .bool false), (34, .slice Al (ls.length) (cl)), (35, elp (some ⟨g10, 0, none⟩) (0)), (36, .int .i64 ((es.getD k (0, 0)).1)), (37, elp Al ((((es.getD k (0, 0)).1).toNat) * 1)), (38, .int .i64 ((ls.getD (((es.getD k (0, 0)).1).toNat) 0))), (39, .bool true), (40, .bool true), (41, .slice Al (ls.length) (cl)), (42, elp (some ⟨g10, 0, none⟩) (1)), (43, .int .i64 ((es.getD k (0, 0)).2)), (44, elp Al ((((es.getD k (0, 0)).2).toNat) * 1)), (45, .int .i64 ((ls.getD (((es.getD k (0, 0)).2).toNat) 0))), (46, .bool true), (47, .bool true), (48, .slice Al (ls.length) (cl)), (49, .slice A2_49 (ls.length) (c2_49)), (50, .slice A2_49 (ls.length) (c2_49)), (51, elp (some ⟨g10, 0, none⟩) (0)), (52, .int .i64 ((es.getD k (0, 0)).1)), (53, .slice A2_49 (ls.length) (c2_49)), (54, elp (some ⟨g10, 0, none⟩) (0)), (55, .int .i64 ((es.getD k (0, 0)).1)), (56, elp A2_49 ((((es.getD k (0, 0)).1).toNat) * 1)), (57, .int .i64 ((ls.getD (((es.getD k (0, 0)).1).toNat) 0))), (58, .int .i64 ((ls.getD (((es.getD k (0, 0)).1).toNat) 0) - 1)), (59, elp A2_49 ((((es.getD k (0, 0)).1).toNat) * 1)), (60, .slice A2_49 (ls.length) (c2_49)), (61, elp (some ⟨g10, 0, none⟩) (1)), (62, .int .i64 ((es.getD k (0, 0)).2)), (63, .slice A2_49 (ls.length) (c2_49)), (64, elp (some ⟨g10, 0, none⟩) (1)), (65, .int .i64 ((es.getD k (0, 0)).2)), (66, elp A2_49 ((((es.getD k (0, 0)).2).toNat) * 1)), (67, .int .i64 (((ls.set (((es.getD k (0, 0)).1).toNat) ((ls.getD (((es.getD k (0, 0)).1).toNat) 0) - 1)).getD (((es.getD k (0, 0)).2).toNat) 0))), (68, .int .i64 (((ls.set (((es.getD k (0, 0)).1).toNat) ((ls.getD (((es.getD k (0, 0)).1).toNat) 0) - 1)).getD (((es.getD k (0, 0)).2).toNat) 0) - 1)), (69, elp A2_49 ((((es.getD k (0, 0)).2).toNat) * 1)), (71, .agg #[.int .i64 (((m : Nat) : Int)), .slice Ag (ng) (kg)]), (72, elp (some ⟨g10, 0, none⟩) (0)), (73, .int .i64 ((es.getD k (0, 0)).1)), (74, elp (some ⟨g10, 0, none⟩) (1)), (75, .int .i64 ((es.getD k (0, 0)).2)), (76, .agg #[.int .i64 (((m : Nat) : Int)), .slice A2_76 (ng + 1) (c2_76)])]) (.cons rfl (.cons rfl (.cons rfl (.cons rfl (.cons rfl (.cons rfl (.cons rfl (.cons rfl (.cons rfl (.cons rfl (.cons rfl (.cons rfl (.cons rfl (.cons rfl (.cons rfl (.cons rfl (.cons rfl (.cons rfl (.cons rfl (.cons rfl (.cons rfl (.cons rfl (.cons rfl (.cons rfl (.cons rfl (.cons rfl (.cons rfl (.cons rfl (.cons rfl (.cons rfl (.cons rfl (.cons rfl (.cons rfl (.cons rfl (.cons rfl (.cons rfl (.cons rfl (.cons rfl (.cons rfl (.cons rfl (.cons rfl (.cons rfl (.cons rfl (.cons rfl (.cons rfl (.cons rfl (.cons rfl (.cons rfl (.cons rfl (.cons rfl (.cons rfl (.cons rfl (.cons rfl (.cons rfl (.cons rfl (.cons rfl (.cons rfl (.cons rfl (.cons rfl (.cons rfl (.cons rfl (.cons rfl (.cons rfl (.cons rfl (.cons rfl (.cons rfl (.cons rfl (.cons rfl (.nil))))))))))))))))))))))))))))))))))))))))))))))))))))))))))))))))))))) (.consE (show row 43 2 A2_76 (ng + 1) (c2_76) (cells fE (ch ++ [(((es.getD k (0, 0)).1), ((es.getD k (0, 0)).2))])) = row 43 2 A2_76 (ng + 1) (c2_76) (cells fE (ch ++ [es.getD k (0, 0)])) by rfl) (.head) (.cons (.head) (.cons (.head) (.cons (.head) (.cons (.head) (.cons (.head) (.refl))))))) ?_
            refine wl_v (ov_move rfl) rfl rfl rfl ?_
            refine wl_v (ov_move rfl) rfl rfl rfl ?_
            refine wl_v (ov_move rfl) rfl rfl rfl ?_
            refine wl_v (ov_add (r := ((k + 1 : Nat) : Int)) rfl rfl rfl (by omega)) rfl rfl rfl ?_
            refine wl_r (or_call (fv := []) (vs := [.agg #[.int .i64 (((m : Nat) : Int)), .slice A2_76 (ng + 1) (c2_76)], .slice A2_49 (ls.length) (c2_49), .slice Ae (es.length) (ce), .int .i64 (((k + 1 : Nat) : Int))]) (cs := []) en122 rfl rfl (call_o (.cons (.head) (.cons (.head) (.cons (.head) (.cons (.head) (.cons (.head) (.cons (.head) (.refl))))))) (fun w hw => findF_c w _ _ _ A2_49 ls.length c2_49 (decE ls (es.getD k (0, 0))) Ae es.length ce es (k + 1) A2_76 (ng + 1) c2_76 c2_76 (ch ++ [es.getD k (0, 0)]) m (holds_row (List.Mem.head _)) hdl h_49 (Holds.keepF hAe ((.drop (.drop (.drop (.drop (.drop .refl))))))) (by first | rfl | assumption | (simp; done) | (simp; omega)) lAe h_76 (by rw [List.length_append, eg]; rfl) ⟨hdl.trans hl.1, by omega, by omega, by omega, by omega⟩ hes hso hdb (fun x hx e he => by rcases List.mem_append.1 hx with h | h; exact hch x h e (List.drop_subset_drop_left es (Nat.le_succ k) he); simp only [List.mem_singleton] at h; subst h; exact below_drop hso (by omega) he) hw))) rfl rfl (kt4p rfl (fun N2_81 A2_81 k2_81 c2_81 h_81 => ?_))
            refine wl_v (ov_move rfl) rfl rfl rfl ?_
            refine wl_v (ov_extract rfl rfl) rfl rfl rfl ?_
            refine wl_v (ov_extract rfl rfl) rfl rfl rfl ?_
            refine wl_r (or_alloc tI25 rfl) rfl rfl (kt1 rfl (fun g12 => ?_))
            refine wl_r0 (or_store_blk (vs := [.int .i64 (N2_81), .slice A2_81 ((facOf (allR (es.drop (k + 1)) (decE ls (es.getD k (0, 0))) (ch ++ [es.getD k (0, 0)]))).1.length) (k2_81)]) (cs' := [.int .i64 (N2_81), .slice A2_81 ((facOf (allR (es.drop (k + 1)) (decE ls (es.getD k (0, 0))) (ch ++ [es.getD k (0, 0)]))).1.length) (k2_81)]) (.head) tI25 rfl rfl rfl rfl (Nat.le_of_ble_eq_true rfl) rfl) rfl rfl (kn0 ?_)
            refine wl_v (ov_assign rfl) rfl rfl rfl ?_
            refine wl_nil ?_
            refine ce_then ?_
            refine cw_seq ?_
            refine cw_region ?_
            refine wl_v (ov_move rfl) rfl rfl rfl ?_
            refine wl_nil ?_
            refine ce_then ?_
            refine ct_bool (i := 84) rfl (fun b84 => ?_) (fun b84 => ?_)
            ·
              have hz : facOf (allR (es.drop k) ls ch) = facOf (allR (es.drop (k + 1)) (decE ls (es.getD k (0, 0))) (ch ++ [es.getD k (0, 0)])) := (congrArg facOf hz0).trans (facOf_yes b84)
              refine cw_true rfl ?_
              refine cw_seq ?_
              refine cw_region ?_
              refine wl_v (ov_loadAgg (vs := [.int .i64 (N2_81), .slice A2_81 ((facOf (allR (es.drop (k + 1)) (decE ls (es.getD k (0, 0))) (ch ++ [es.getD k (0, 0)]))).1.length) (k2_81)]) tI25 (holds_blk (List.Mem.head _)) rfl some_lit rfl rfl) rfl rfl rfl ?_
              refine wl_r0 (or_store_blk (vs := [.int .i64 (N2_81), .slice A2_81 ((facOf (allR (es.drop (k + 1)) (decE ls (es.getD k (0, 0))) (ch ++ [es.getD k (0, 0)]))).1.length) (k2_81)]) (cs' := [.int .i64 (N2_81), .slice A2_81 ((facOf (allR (es.drop (k + 1)) (decE ls (es.getD k (0, 0))) (ch ++ [es.getD k (0, 0)]))).1.length) (k2_81)]) (.tail (.tail (.tail (.tail .head)))) tI25 rfl rfl rfl rfl (Nat.le_of_ble_eq_true rfl) rfl) rfl rfl (kn0 ?_)
              refine wl_v (ov_assign rfl) rfl rfl rfl ?_
              refine wl_nil ?_
              refine ce_then ?_
              refine cw_ret ?_
              refine ce_then_ret ?_
              refine ce_results (v := .tuple #[.agg #[.int .i64 (N2_81), .slice A2_81 ((facOf (allR (es.drop (k + 1)) (decE ls (es.getD k (0, 0))) (ch ++ [es.getD k (0, 0)]))).1.length) (k2_81)], .bool true]) (res2 rfl (rv_c rfl tI25 rfl (List.Mem.head _)) (rv_t rfl)) (fun w' hw => ?_)
              exact ⟨N2_81, A2_81, k2_81, c2_81, ⟨by rw [hz]; exact h_81.1, by rw [hz]; exact h_81.2⟩, (by rw [hz, b84]), ((.consE (show row 43 2 A2_81 ((facOf (allR (es.drop (k + 1)) (decE ls (es.getD k (0, 0))) (ch ++ [es.getD k (0, 0)]))).1.length) (c2_81) (cells fE ((facOf (allR (es.drop (k + 1)) (decE ls (es.getD k (0, 0))) (ch ++ [es.getD k (0, 0)]))).1)) = row 43 2 A2_81 ((facOf (allR (es.drop k) ls ch)).1.length) (c2_81) (cells fE ((facOf (allR (es.drop k) ls ch)).1)) by rw [hz]) (.tail (.tail .head)) ((.drop (.drop (.drop (.drop (.drop (.drop .refl))))))) : Keep _ _).ss hw)⟩
            ·
              have hz1 : facOf (allR (es.drop k) ls ch) = facOf (allR (es.drop (k + 1)) ls ch) := (congrArg facOf hz0).trans (facOf_no b84)
              refine cw_false rfl ?_
              refine cw_skip ?_
              refine ce_then ?_
              refine cw_seq ?_
              refine cw_region ?_
              refine wl_v (ov_loadAgg (vs := [.int .i64 (((m : Nat) : Int)), .slice Ag (ng) (kg)]) tI25 (holds_blk (List.Mem.tail _ (List.Mem.tail _ (List.Mem.tail _ (List.Mem.tail _ (List.Mem.tail _ (List.Mem.head _))))))) rfl some_lit rfl rfl) rfl rfl rfl ?_
              refine wl_v (ov_move rfl) rfl rfl rfl ?_
              refine wl_v (ov_move rfl) rfl rfl rfl ?_
              refine wl_v (ov_move rfl) rfl rfl rfl ?_
              refine wl_v (ov_add (r := ((k + 1 : Nat) : Int)) rfl rfl rfl (by omega)) rfl rfl rfl ?_
              refine wl_r (or_call (fv := []) (vs := [.agg #[.int .i64 (((m : Nat) : Int)), .slice Ag (ng) (kg)], .slice Al (ls.length) (cl), .slice Ae (es.length) (ce), .int .i64 (((k + 1 : Nat) : Int))]) (cs := []) en122 rfl rfl (call_o (.cons (.tail (.tail (.tail (.tail (.tail (.tail .head)))))) (.cons (.head) (.cons (.head) (.cons (.head) (.cons (.head) (.cons (.head) (.cons (.head) (.refl)))))))) (fun w hw => findF_c w _ _ _ Al ls.length cl ls Ae es.length ce es (k + 1) Ag ng kg cg ch m (Holds.keepF hAl ((.drop (.drop (.drop (.drop (.drop (.drop .refl)))))))) (by first | rfl | assumption | (simp; done) | (simp; omega)) lAl (Holds.keepF hAe ((.drop (.drop (.drop (.drop (.drop (.drop .refl)))))))) (by first | rfl | assumption | (simp; done) | (simp; omega)) lAe lg eg ⟨hl.1, by omega, by omega, by omega, by omega⟩ hes hso hls (fun x hx e he => hch x hx e (List.drop_subset_drop_left es (Nat.le_succ k) he)) hw))) rfl rfl (kt4p rfl (fun N2_91 A2_91 k2_91 c2_91 h_91 => ?_))
              refine wl_v (ov_extract rfl rfl) rfl rfl rfl ?_
              refine wl_v (ov_extract rfl rfl) rfl rfl rfl ?_
              refine wl_r0 (or_store_blk (vs := [.int .i64 (N2_91), .slice A2_91 ((facOf (allR (es.drop (k + 1)) ls ch)).1.length) (k2_91)]) (cs' := [.int .i64 (N2_91), .slice A2_91 ((facOf (allR (es.drop (k + 1)) ls ch)).1.length) (k2_91)]) (.tail (.tail (.tail (.tail (.tail .head))))) tI25 rfl rfl rfl rfl (Nat.le_of_ble_eq_true rfl) rfl) rfl rfl (kn0 ?_)
              refine wl_v (ov_assign rfl) rfl rfl rfl ?_
              refine wl_nil ?_
              refine ce_then ?_
              refine cw_ret ?_
              refine ce_results (v := .tuple #[.agg #[.int .i64 (N2_91), .slice A2_91 ((facOf (allR (es.drop (k + 1)) ls ch)).1.length) (k2_91)], .bool ((facOf (allR (es.drop (k + 1)) ls ch)).2)]) (res2 rfl (rv_c rfl tI25 rfl (List.Mem.head _)) (rv_t rfl)) (fun w' hw => ?_)
              exact ⟨N2_91, A2_91, k2_91, c2_91, ⟨by rw [hz1]; exact h_91.1, by rw [hz1]; exact h_91.2⟩, (by rw [hz1]), ((.consE (show row 43 2 A2_91 ((facOf (allR (es.drop (k + 1)) ls ch)).1.length) (c2_91) (cells fE ((facOf (allR (es.drop (k + 1)) ls ch)).1)) = row 43 2 A2_91 ((facOf (allR (es.drop k) ls ch)).1.length) (c2_91) (cells fE ((facOf (allR (es.drop k) ls ch)).1)) by rw [hz1]) (.tail .head) ((.drop (.drop (.drop (.drop (.drop (.drop .refl))))))) : Keep _ _).ss hw)⟩
          ·
            have hz1 : facOf (allR (es.drop k) ls ch) = facOf (allR (es.drop (k + 1)) ls ch) := congrArg facOf (allR_no (by omega) (fun h => by have := h.2; omega))
            refine wl_v (ov_pick_t rfl rfl) rfl rfl rfl ?_
            refine wl_nil ?_
            refine ce_then ?_
            refine cw_false rfl ?_
            refine cw_skip ?_
            refine ce_then ?_
            refine cw_seq ?_
            refine cw_region ?_
            refine wl_v (ov_loadAgg (vs := [.int .i64 (((m : Nat) : Int)), .slice Ag (ng) (kg)]) tI25 (holds_blk (List.Mem.tail _ (List.Mem.tail _ (List.Mem.head _)))) rfl some_lit rfl rfl) rfl rfl rfl ?_
            refine wl_v (ov_move rfl) rfl rfl rfl ?_
            refine wl_v (ov_move rfl) rfl rfl rfl ?_
            refine wl_v (ov_move rfl) rfl rfl rfl ?_
            refine wl_v (ov_add (r := ((k + 1 : Nat) : Int)) rfl rfl rfl (by omega)) rfl rfl rfl ?_
            refine wl_r (or_call (fv := []) (vs := [.agg #[.int .i64 (((m : Nat) : Int)), .slice Ag (ng) (kg)], .slice Al (ls.length) (cl), .slice Ae (es.length) (ce), .int .i64 (((k + 1 : Nat) : Int))]) (cs := []) en122 rfl rfl (call_o (.cons (.tail (.tail (.tail .head))) (.cons (.head) (.cons (.head) (.cons (.head) (.refl))))) (fun w hw => findF_c w _ _ _ Al ls.length cl ls Ae es.length ce es (k + 1) Ag ng kg cg ch m (Holds.keepF hAl ((.drop (.drop (.drop .refl))))) (by first | rfl | assumption | (simp; done) | (simp; omega)) lAl (Holds.keepF hAe ((.drop (.drop (.drop .refl))))) (by first | rfl | assumption | (simp; done) | (simp; omega)) lAe lg eg ⟨hl.1, by omega, by omega, by omega, by omega⟩ hes hso hls (fun x hx e he => hch x hx e (List.drop_subset_drop_left es (Nat.le_succ k) he)) hw))) rfl rfl (kt4p rfl (fun N2_91 A2_91 k2_91 c2_91 h_91 => ?_))
            refine wl_v (ov_extract rfl rfl) rfl rfl rfl ?_
            refine wl_v (ov_extract rfl rfl) rfl rfl rfl ?_
            refine wl_r0 (or_store_blk (vs := [.int .i64 (N2_91), .slice A2_91 ((facOf (allR (es.drop (k + 1)) ls ch)).1.length) (k2_91)]) (cs' := [.int .i64 (N2_91), .slice A2_91 ((facOf (allR (es.drop (k + 1)) ls ch)).1.length) (k2_91)]) (.tail (.tail .head)) tI25 rfl rfl rfl rfl (Nat.le_of_ble_eq_true rfl) rfl) rfl rfl (kn0 ?_)
            refine wl_v (ov_assign rfl) rfl rfl rfl ?_
            refine wl_nil ?_
            refine ce_then ?_
            refine cw_ret ?_
            refine ce_results (v := .tuple #[.agg #[.int .i64 (N2_91), .slice A2_91 ((facOf (allR (es.drop (k + 1)) ls ch)).1.length) (k2_91)], .bool ((facOf (allR (es.drop (k + 1)) ls ch)).2)]) (res2 rfl (rv_c rfl tI25 rfl (List.Mem.head _)) (rv_t rfl)) (fun w' hw => ?_)
            exact ⟨N2_91, A2_91, k2_91, c2_91, ⟨by rw [hz1]; exact h_91.1, by rw [hz1]; exact h_91.2⟩, (by rw [hz1]), ((.consE (show row 43 2 A2_91 ((facOf (allR (es.drop (k + 1)) ls ch)).1.length) (c2_91) (cells fE ((facOf (allR (es.drop (k + 1)) ls ch)).1)) = row 43 2 A2_91 ((facOf (allR (es.drop k) ls ch)).1.length) (c2_91) (cells fE ((facOf (allR (es.drop k) ls ch)).1)) by rw [hz1]) (.tail .head) ((.drop (.drop (.drop .refl)))) : Keep _ _).ss hw)⟩
        ·
          have hz1 : facOf (allR (es.drop k) ls ch) = facOf (allR (es.drop (k + 1)) ls ch) := congrArg facOf (allR_no (by omega) (fun h => by have := h.1; omega))
          refine wl_v (ov_move rfl) rfl rfl rfl ?_
          refine wl_not rfl rfl rfl rfl rfl rfl ?_
          refine wl_not rfl rfl rfl rfl rfl rfl ?_
          refine wl_not rfl rfl rfl rfl rfl rfl ?_
          refine wl_not rfl rfl rfl rfl rfl rfl ?_
          refine wl_not rfl rfl rfl rfl rfl rfl ?_
          refine wl_not rfl rfl rfl rfl rfl rfl ?_
          refine wl_v (ov_pick_f rfl rfl) rfl rfl rfl ?_
          refine wl_nil ?_
          refine ce_then ?_
          refine cw_false rfl ?_
          refine cw_skip ?_
          refine ce_then ?_
          refine cw_seq ?_
          refine cw_region ?_
          refine wl_v (ov_loadAgg (vs := [.int .i64 (((m : Nat) : Int)), .slice Ag (ng) (kg)]) tI25 (holds_blk (List.Mem.tail _ (List.Mem.tail _ (List.Mem.head _)))) rfl some_lit rfl rfl) rfl rfl rfl ?_
          refine wl_v (ov_move rfl) rfl rfl rfl ?_
          refine wl_v (ov_move rfl) rfl rfl rfl ?_
          refine wl_v (ov_move rfl) rfl rfl rfl ?_
          refine wl_v (ov_add (r := ((k + 1 : Nat) : Int)) rfl rfl rfl (by omega)) rfl rfl rfl ?_
          refine wl_r (or_call (fv := []) (vs := [.agg #[.int .i64 (((m : Nat) : Int)), .slice Ag (ng) (kg)], .slice Al (ls.length) (cl), .slice Ae (es.length) (ce), .int .i64 (((k + 1 : Nat) : Int))]) (cs := []) en122 rfl rfl (call_o (.cons (.tail (.tail (.tail .head))) (.cons (.head) (.cons (.head) (.cons (.head) (.refl))))) (fun w hw => findF_c w _ _ _ Al ls.length cl ls Ae es.length ce es (k + 1) Ag ng kg cg ch m (Holds.keepF hAl ((.drop (.drop (.drop .refl))))) (by first | rfl | assumption | (simp; done) | (simp; omega)) lAl (Holds.keepF hAe ((.drop (.drop (.drop .refl))))) (by first | rfl | assumption | (simp; done) | (simp; omega)) lAe lg eg ⟨hl.1, by omega, by omega, by omega, by omega⟩ hes hso hls (fun x hx e he => hch x hx e (List.drop_subset_drop_left es (Nat.le_succ k) he)) hw))) rfl rfl (kt4p rfl (fun N2_91 A2_91 k2_91 c2_91 h_91 => ?_))
          refine wl_v (ov_extract rfl rfl) rfl rfl rfl ?_
          refine wl_v (ov_extract rfl rfl) rfl rfl rfl ?_
          refine wl_r0 (or_store_blk (vs := [.int .i64 (N2_91), .slice A2_91 ((facOf (allR (es.drop (k + 1)) ls ch)).1.length) (k2_91)]) (cs' := [.int .i64 (N2_91), .slice A2_91 ((facOf (allR (es.drop (k + 1)) ls ch)).1.length) (k2_91)]) (.tail (.tail .head)) tI25 rfl rfl rfl rfl (Nat.le_of_ble_eq_true rfl) rfl) rfl rfl (kn0 ?_)
          refine wl_v (ov_assign rfl) rfl rfl rfl ?_
          refine wl_nil ?_
          refine ce_then ?_
          refine cw_ret ?_
          refine ce_results (v := .tuple #[.agg #[.int .i64 (N2_91), .slice A2_91 ((facOf (allR (es.drop (k + 1)) ls ch)).1.length) (k2_91)], .bool ((facOf (allR (es.drop (k + 1)) ls ch)).2)]) (res2 rfl (rv_c rfl tI25 rfl (List.Mem.head _)) (rv_t rfl)) (fun w' hw => ?_)
          exact ⟨N2_91, A2_91, k2_91, c2_91, ⟨by rw [hz1]; exact h_91.1, by rw [hz1]; exact h_91.2⟩, (by rw [hz1]), ((.consE (show row 43 2 A2_91 ((facOf (allR (es.drop (k + 1)) ls ch)).1.length) (c2_91) (cells fE ((facOf (allR (es.drop (k + 1)) ls ch)).1)) = row 43 2 A2_91 ((facOf (allR (es.drop k) ls ch)).1.length) (c2_91) (cells fE ((facOf (allR (es.drop k) ls ch)).1)) by rw [hz1]) (.tail .head) ((.drop (.drop (.drop .refl)))) : Keep _ _).ss hw)⟩
termination_by es.length - k
decreasing_by all_goals omega
set_option maxRecDepth 100000 in
theorem factorOf_c (w : World) (m : Nat) (A : Option Addr) (n : Nat) (c : Nat) (es : List (Int × Int)) (A1 : Option Addr) (n1 : Nat) (c1 : Nat) (ls : List (Int)) (hA : At w A (cells fE es)) (eA : es.length = n) (lA : n ≤ c) (hA1 : At w A1 (cells fI ls)) (eA1 : ls.length = n1) (lA1 : n1 ≤ c1) (hg : Gr m es) (hl : ls.length = m ∧ m ≤ 7) (hls : ∀ x ∈ ls, 0 ≤ x ∧ x ≤ 1000) : Calls Try.prog 73 #[.agg #[.int .i64 (((m : Nat) : Int)), .slice A (n) (c)], .slice A1 (n1) (c1)] w (Ret fun rv w' => ∃ N2 A2 k2 c2, ((facV es ls).1.length ≤ k2 ∧ N2 = facN m (facV es ls)) ∧ rv = .tuple #[.agg #[.int .i64 (N2), .slice A2 ((facV es ls).1.length) (k2)], .bool ((facV es ls).2)] ∧ New w w' [row 43 2 A2 ((facV es ls).1.length) (c2) (cells fE ((facV es ls).1))]) := by
  have oA := hA.atB
  subst eA
  have oA1 := hA1.atB
  subst eA1
  have hel : es.length ≤ 21 := Nat.le_trans hg.sublist.length_le (prs_small m hl.2)
  refine fn_enter (args := [.agg #[.int .i64 (((m : Nat) : Int)), .slice A (es.length) (c)], .slice A1 (ls.length) (c1)]) Try.func73 rfl Try.ntmps73 rfl (SS.start w) ?_
  refine cw_seq ?_
  refine cw_region ?_
  refine wl_r (or_box rfl rfl) rfl rfl (kt1 rfl (fun g2 => ?_))
  refine wl_r (or_alloc tI25 rfl) rfl rfl (kt1 rfl (fun g4 => ?_))
  refine wl_v (ov_assign rfl) rfl rfl rfl ?_
  refine wl_nil ?_
  refine ce_then ?_
  refine cw_seq ?_
  refine cw_region ?_
  refine wl_v (ov_fieldAddr fI25_0 some_lit rfl) rfl rfl rfl ?_
  refine wl_v (ov_load tI3 (holds_blk (List.Mem.tail _ (List.Mem.head _))) rfl rfl) rfl rfl rfl ?_
  refine wl_r (or_buildSlice (e := 43) (size := 2) (is := []) (vs := []) (cs := cells fE ([])) rfl rfl rfl (by decide) (fun _ => by kernel_rfl)) rfl rfl (kt1 rfl (fun g8 => ?_))
  refine wl_v (ov_build (is := [0, 1]) (vs := [.int .i64 (((m : Nat) : Int)), .slice (some ⟨g8, 0, none⟩) (0) (0)]) (v := .agg #[.int .i64 (((m : Nat) : Int)), .slice (some ⟨g8, 0, none⟩) (0) (0)]) rfl rfl (fun _ => by kernel_rfl)) rfl rfl rfl ?_
  refine wl_v (ov_move rfl) rfl rfl rfl ?_
  refine wl_v (ov_fieldAddr fI25_1 some_lit rfl) rfl rfl rfl ?_
  refine wl_v (ov_load tI23 (holds_blk (List.Mem.tail _ (List.Mem.tail _ (List.Mem.head _)))) rfl rfl) rfl rfl rfl ?_
  refine wl_r (or_call (fv := []) (vs := [.agg #[.int .i64 (((m : Nat) : Int)), .slice (some ⟨g8, 0, none⟩) (0) (0)], .slice A1 (ls.length) (c1), .slice A (es.length) (c), .int .i64 (0)]) (cs := []) en122 rfl rfl (call_o (.cons (.head) (.cons (.head) (.cons (.head) (.nil)))) (fun w hw => findF_c w _ _ _ A1 ls.length c1 ls A es.length c es 0 (some ⟨g8, 0, none⟩) 0 0 0 ([]) m (holds_old oA1) rfl lA1 (holds_old oA) rfl lA (Nat.le_refl _) rfl ⟨hl.1, hl.2, hel, Nat.zero_le _, Nat.le_refl _⟩ (fun e he => hg.inr e he) hg.sorted hls (fun x hx => by cases hx) hw))) rfl rfl (kt4p rfl (fun N2_13 A2_13 k2_13 c2_13 h_13 => ?_))
  refine wl_v (ov_extract rfl rfl) rfl rfl rfl ?_
  refine wl_v (ov_extract rfl rfl) rfl rfl rfl ?_
  refine wl_r0 (or_store_blk (vs := [.int .i64 (N2_13), .slice A2_13 ((facOf (allR (es.drop 0) ls ([]))).1.length) (k2_13)]) (cs' := [.int .i64 (N2_13), .slice A2_13 ((facOf (allR (es.drop 0) ls ([]))).1.length) (k2_13)]) (.tail .head) tI25 rfl rfl rfl rfl (Nat.le_of_ble_eq_true rfl) rfl) rfl rfl (kn0 ?_)
  refine wl_v (ov_assign rfl) rfl rfl rfl ?_
  refine wl_nil ?_
  refine ce_then ?_
  refine cw_ret ?_
  refine ce_results (v := .tuple #[.agg #[.int .i64 (N2_13), .slice A2_13 ((facOf (allR (es.drop 0) ls ([]))).1.length) (k2_13)], .bool ((facOf (allR (es.drop 0) ls ([]))).2)]) (res2 rfl (rv_c rfl tI25 rfl (List.Mem.head _)) (rv_t rfl)) (fun w' hw => ?_)
  exact ⟨N2_13, A2_13, k2_13, c2_13, h_13, rfl, ((.cons (.tail .head) (.nil) : Keep _ _).ss hw).to_new⟩
end Go.Proofs.Ytfjgfocjogfodaa.W20
