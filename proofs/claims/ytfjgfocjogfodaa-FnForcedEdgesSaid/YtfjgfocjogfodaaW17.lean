/- Walks of functions of the given program: each returns what its Lean function says and leaves the memory that was there as it was. Conditions: those of each theorem. -/
import Derived.Test.YtfjgfocjogfodaaSm
import Derived.Test.YtfjgfocjogfodaaProg
import Derived.Test.YtfjgfocjogfodaaPl
import Derived.Test.YtfjgfocjogfodaaPo
import Derived.Test.YtfjgfocjogfodaaPd
import Derived.Test.YtfjgfocjogfodaaPe
import Derived.Test.YtfjgfocjogfodaaPh
import Derived.Test.YtfjgfocjogfodaaPm
import Derived.Test.YtfjgfocjogfodaaPc
import Derived.Test.YtfjgfocjogfodaaPs
import Derived.Test.YtfjgfocjogfodaaPt
import Derived.Test.YtfjgfocjogfodaaPu
import Derived.Test.YtfjgfocjogfodaaPv
import Derived.Test.YtfjgfocjogfodaaPw
import Derived.Test.YtfjgfocjogfodaaT
import Derived.Test.YtfjgfocjogfodaaW2
import Derived.Test.YtfjgfocjogfodaaW13
import Derived.KernelRfl
namespace Go.Proofs.Ytfjgfocjogfodaa.W17
open Go.Sx Go.RowKit Go.Proofs.Ytfjgfocjogfodaa.T Go.Proofs.Ytfjgfocjogfodaa.W2 Go.Proofs.Ytfjgfocjogfodaa.W13
open Go.Plain
set_option linter.unusedVariables false
set_option maxRecDepth 100000 in
theorem sub1_c (w w0 : World) (Bd : Nat) (F : List Ent) (i : Nat) (gf : Nat) (gp : Nat) (gn : Nat) (gw : Nat) (gl : Nat) (Al : Option Addr) (m : Nat) (kl : Nat) (cl : Nat) (ls : List Int) (gc : Nat) (Ac : Option Addr) (nc : Nat) (cc : Nat) (ch : List Ed) (Af : Option Addr) (nf : Nat) (cf : Nat) (es : List Ed) (Fc : FuncId) (cs : List Value) (σ : Type) (G : σ → Ent) (J : σ → List Ed → σ → Prop) (lim : σ → Nat) (b : Bool) (s : σ) (hgf : Holds (SS w0 Bd F) (some ⟨gf, 0, none⟩) [.slice Af (nf) (cf)]) (hgp : Holds (SS w0 Bd F) (some ⟨gp, 0, none⟩) [.func (.func Fc) #[] cs.toArray]) (hgn : Holds (SS w0 Bd F) (some ⟨gn, 0, none⟩) [.int .i64 (((m : Nat) : Int))]) (hgw : Holds (SS w0 Bd F) (some ⟨gw, 0, none⟩) [.func (.func 118) #[] #[elp (some ⟨gf, 0, none⟩) (0), elp (some ⟨gl, 0, none⟩) (0), elp (some ⟨gp, 0, none⟩) (0), elp (some ⟨gn, 0, none⟩) (0), elp (some ⟨gc, 0, none⟩) (0), elp (some ⟨gw, 0, none⟩) (0)]]) (ll : m ≤ kl) (el : ls.length = m) (lc : nc ≤ cc) (ec : ch.length = nc) (hAf : Holds (SS w0 Bd F) Af (cells fE es)) (eAf : es.length = nf) (lAf : nf ≤ cf) (hen : Enters Try.prog Fc) (hf : ∀ (s : σ) (F' : List Ent) (A : Option Addr) (k c : Nat) (xs : List Ed) w', lim s < 4000000 → xs.length = k → SS w0 Bd ((row 43 2 A (k) (c) (cells fE xs)) :: G s :: F') w' → Calls Try.prog Fc ([] ++ [Value.agg #[.int .i64 ((m : Nat) : Int), .slice A k k]] ++ cs).toArray w' (Ret fun v w'' => ∃ s', J s xs s' ∧ v = .bool b ∧ SS w0 Bd (G s' :: F') w'')) (hJ : ∀ s x s', J s x s' → lim s' ≤ lim s + 1) (hi : i ≤ es.length ∧ nc ≤ i ∧ es.length ≤ 21 ∧ m ≤ 7) (hes : ∀ e ∈ es, OkE m e) (hls : ∀ x ∈ ls, 0 ≤ x ∧ x ≤ 1000) (hlim : lim s + (allR (es.drop i) ls ch).length ≤ 4000000) (hss : SS w0 Bd ((blk gl [.slice Al (m) (kl)] 31) :: (row 3 1 Al (m) (cl) (cells fI ls)) :: (blk gc [.slice Ac (nc) (cc)] 23) :: (row 43 2 Ac (nc) (cc) (cells fE ch)) :: (G s) :: F) w) : Calls Try.prog 118 #[.int .i64 (((i : Nat) : Int)), elp (some ⟨gf, 0, none⟩) (0), elp (some ⟨gl, 0, none⟩) (0), elp (some ⟨gp, 0, none⟩) (0), elp (some ⟨gn, 0, none⟩) (0), elp (some ⟨gc, 0, none⟩) (0), elp (some ⟨gw, 0, none⟩) (0)] w (Ret fun rv w' => ∃ s2 A5 c5, (runP b J s (allR (es.drop i) ls ch) s2 ∧ nc ≤ c5) ∧ rv = .bool (moreB b (allR (es.drop i) ls ch)) ∧ SS w0 Bd ((blk gl [.slice Al (m) (kl)] 31) :: (row 3 1 Al (m) (cl) (cells fI ls)) :: (blk gc [.slice A5 (nc) (c5)] 23) :: (row 43 2 A5 (nc) (c5) (cells fE ch)) :: (G s2) :: F) w') := by
  refine fn_enter (args := [.int .i64 (((i : Nat) : Int)), elp (some ⟨gf, 0, none⟩) (0), elp (some ⟨gl, 0, none⟩) (0), elp (some ⟨gp, 0, none⟩) (0), elp (some ⟨gn, 0, none⟩) (0), elp (some ⟨gc, 0, none⟩) (0), elp (some ⟨gw, 0, none⟩) (0)]) Try.func118 rfl Try.ntmps118 rfl hss ?_
  refine cw_seq ?_
  refine cw_region ?_
  refine wl_v (ov_assign rfl) rfl rfl rfl ?_
  refine wl_nil ?_
  refine ce_then ?_
  refine cw_seq ?_
  refine cw_seq ?_
  refine cw_region ?_
  refine wl_v (ov_move rfl) rfl rfl rfl ?_
  refine wl_v (ov_load tI23 (Holds.keepF hgf ((.drop (.drop (.drop (.drop (.drop .refl))))))) rfl rfl) rfl rfl rfl ?_
  refine wl_v (ov_len (sliceI_spec sI23) rfl) rfl rfl rfl ?_
  refine wl_if (ov_eql rfl rfl) rfl rfl rfl (fun c14 => ?_) (fun c14 => ?_)
  ·
    refine wl_nil ?_
    refine ce_then ?_
    refine cw_true rfl ?_
    refine cw_seq ?_
    refine cw_draw mixO [] (.cons (.head) (.cons (.head) (.cons (.head) (.cons (.head) ((.drop .refl)))))) rfl ?_
    refine wg_take (i := 0) rfl (ov_load tI31 (holds_blk (List.Mem.head _)) rfl rfl) rfl rfl rfl (by kernel_rfl) (by kernel_rfl) (by kernel_rfl) (by kernel_rfl) ?_
    refine wg_one (i := 1) (by kernel_rfl) ?_
    refine go_r rfl rfl rfl rfl (or_call (fv := []) (vs := [.slice Al (m) (kl), .int .i64 (0), .int .i64 (0)]) (cs := []) en63 rfl rfl (call_v (fun w hw => allIn_c w Al m kl ls 0 0 ((holds_row (List.Mem.tail _ (List.Mem.head _))) w hw) el ll (by omega)))) (kt_if rfl (fun c16 => ?_) (fun c16 => ?_))
    ·
      have hz : allR (es.drop i) ls ch = [ch] := (allR_end (by omega) ls ch).trans (if_pos c16)
      refine gk (.cons (.head) (.cons (.head) (.cons (.head) (.cons (.head) ((.drop .refl)))))) ?_
      refine wg_takep (i := 2) rfl (ov_not rfl) rfl rfl rfl (by kernel_rfl) (by kernel_rfl) (by kernel_rfl) rfl ?_
      refine wg_takep (i := 3) rfl (ov_move rfl) rfl rfl rfl (by kernel_rfl) (by kernel_rfl) (by kernel_rfl) rfl ?_
      refine wg_take_go (i := 4) rfl rfl rfl (ov_load tI28 (Holds.keepF hgp ((.drop (.drop (.drop (.drop .refl)))))) rfl rfl) rfl (by kernel_rfl) (by kernel_rfl) (by kernel_rfl) (by kernel_rfl) ?_
      refine wg_take_go (i := 5) rfl rfl rfl (ov_load tI3 (Holds.keepF hgn ((.drop (.drop (.drop (.drop .refl)))))) rfl rfl) rfl (by kernel_rfl) (by kernel_rfl) (by kernel_rfl) (by kernel_rfl) ?_
      refine wg_take_go (i := 6) rfl rfl rfl (ov_load tI23 (holds_blk (List.Mem.tail _ (List.Mem.tail _ (List.Mem.head _)))) rfl rfl) rfl (by kernel_rfl) (by kernel_rfl) (by kernel_rfl) (by kernel_rfl) ?_
      refine wg_one (i := 7) (by kernel_rfl) ?_
      refine go_rg rfl rfl rfl rfl (or_call (fv := []) (vs := [.slice Ac (nc) (cc)]) (cs := []) en119 rfl rfl (call_x2 (fun w hw => cloneCE_c w Ac nc cc ch ((holds_row (List.Mem.tail _ (List.Mem.tail _ (List.Mem.tail _ (List.Mem.head _))))) w hw) ec lc (by omega)))) (kt2p rfl (fun A2_22 c2_22 h_22 => ?_))
      refine gk (.cons (.tail .head) (.cons (.tail .head) (.cons (.tail .head) (.cons (.tail .head) ((.drop (.drop .refl))))))) ?_
      refine wg_take_go (i := 8) rfl rfl rfl (ov_build (is := [0, 1]) (vs := [.int .i64 (((m : Nat) : Int)), .slice A2_22 (nc) (nc)]) (v := .agg #[.int .i64 (((m : Nat) : Int)), .slice A2_22 (nc) (nc)]) rfl rfl (fun _ => by kernel_rfl)) rfl (by kernel_rfl) (by kernel_rfl) (by kernel_rfl) (by kernel_rfl) ?_
      refine wg_one (i := 9) (by kernel_rfl) ?_
      refine go_rg rfl rfl rfl rfl (or_call (fv := []) (vs := [.agg #[.int .i64 (((m : Nat) : Int)), .slice A2_22 (nc) (nc)]]) (cs := cs) hen rfl rfl (call_o (.cons (.head) (.cons (.tail (.tail (.tail (.tail .head)))) (.cons (.head) (.cons (.head) (.cons (.head) (.cons (.head) (.refl))))))) (fun w hw => hf _ _ _ _ _ _ w (by rw [hz, List.length_singleton] at hlim; omega) ec hw))) (kt1p rfl (fun s_24 h_24 => ?_))
      refine gk (.cons (.tail .head) (.cons (.tail .head) (.cons (.tail .head) (.cons (.tail .head) ((.drop .refl)))))) ?_
      refine wg_takep (i := 10) rfl (ov_pick_f rfl rfl) rfl rfl rfl (by kernel_rfl) (by kernel_rfl) (by kernel_rfl) rfl ?_
      refine wg_takep (i := 11) rfl (ov_assign rfl) rfl rfl rfl (by kernel_rfl) (by kernel_rfl) (by kernel_rfl) rfl ?_
      refine wg_done (by kernel_rfl) ?_
      refine ce_then ?_
      refine cw_ret ?_
      refine ce_then_ret ?_
      refine ce_results (v := .bool (b)) (res1 rfl (rv_t rfl)) (fun w' hw => ?_)
      exact ⟨s_24, Ac, cc, ⟨by rw [hz]; exact run_one h_24, lc⟩, (by rw [hz, moreB_one]), ((.cons (.tail .head) (.cons (.tail .head) (.cons (.tail .head) (.cons (.tail .head) (.cons (.head) (.refl))))) : Keep _ _).ss hw)⟩
    ·
      have hz : allR (es.drop i) ls ch = [] := (allR_end (by omega) ls ch).trans (if_neg c16)
      refine gk (.cons (.head) (.cons (.head) (.cons (.head) (.cons (.head) ((.drop .refl)))))) ?_
      refine wg_takep (i := 2) rfl (ov_not rfl) rfl rfl rfl (by kernel_rfl) (by kernel_rfl) (by kernel_rfl) rfl ?_
      refine wg_takep (i := 3) rfl (ov_move rfl) rfl rfl rfl (by kernel_rfl) (by kernel_rfl) (by kernel_rfl) rfl ?_
      refine wg_take_not (i := 4) rfl rfl rfl rfl rfl (by kernel_rfl) (by kernel_rfl) (by kernel_rfl) (by kernel_rfl) ?_
      refine wg_take_not (i := 5) rfl rfl rfl rfl rfl (by kernel_rfl) (by kernel_rfl) (by kernel_rfl) (by kernel_rfl) ?_
      refine wg_take_not (i := 6) rfl rfl rfl rfl rfl (by kernel_rfl) (by kernel_rfl) (by kernel_rfl) (by kernel_rfl) ?_
      refine wg_take_not (i := 7) rfl rfl rfl rfl rfl (by kernel_rfl) (by kernel_rfl) (by kernel_rfl) (by kernel_rfl) ?_
      refine wg_take_not (i := 8) rfl rfl rfl rfl rfl (by kernel_rfl) (by kernel_rfl) (by kernel_rfl) (by kernel_rfl) ?_
      refine wg_take_not (i := 9) rfl rfl rfl rfl rfl (by kernel_rfl) (by kernel_rfl) (by kernel_rfl) (by kernel_rfl) ?_
      refine wg_takep (i := 10) rfl (ov_pick_t rfl rfl) rfl rfl rfl (by kernel_rfl) (by kernel_rfl) (by kernel_rfl) rfl ?_
      refine wg_takep (i := 11) rfl (ov_assign rfl) rfl rfl rfl (by kernel_rfl) (by kernel_rfl) (by kernel_rfl) rfl ?_
      refine wg_done (by kernel_rfl) ?_
      refine ce_then ?_
      refine cw_ret ?_
      refine ce_then_ret ?_
      refine ce_results (v := .bool true) (res1 rfl (rv_t rfl)) (fun w' hw => ?_)
      exact ⟨s, Ac, cc, ⟨by rw [hz]; rfl, lc⟩, (by rw [hz, moreB_nil]), ((.cons (.head) (.cons (.head) (.cons (.head) (.cons (.head) (.cons (.head) (.refl))))) : Keep _ _).ss hw)⟩
  ·
    refine wl_nil ?_
    refine ce_then ?_
    refine cw_false rfl ?_
    refine cw_skip ?_
    refine ce_then ?_
    refine cw_seq ?_
    refine cw_region ?_
    refine wl_v (ov_load tI23 (Holds.keepF hgf ((.drop (.drop (.drop (.drop (.drop .refl))))))) rfl rfl) rfl rfl rfl ?_
    refine wl_v (ov_move rfl) rfl rfl rfl ?_
    refine wl_v (ov_index (k := i) (c := cf) sI23 tI43 rfl rfl (some_holds (q := i * 2) (Holds.keepF hAf ((.drop (.drop (.drop (.drop (.drop .refl))))))) (by rw [cells_length fE_len]; have hlt : i < es.length := (by first | omega | (rw [List.length_set]; omega) | (rw [hdl]; omega) | (rw [List.length_set, hdl]; omega)); omega)) (show i < nf from (by first | omega | (rw [List.length_set]; omega) | (rw [hdl]; omega) | (rw [List.length_set, hdl]; omega)))) rfl rfl rfl ?_
    refine wl_v (ov_loadAgg (vs := [.int .i64 ((es.getD i (0, 0)).1), .int .i64 ((es.getD i (0, 0)).2)]) tI43 (Holds.keepF hAf ((.drop (.drop (.drop (.drop (.drop .refl))))))) rfl (some_holds (q := i * 2) (Holds.keepF hAf ((.drop (.drop (.drop (.drop (.drop .refl))))))) (by rw [cells_length fE_len]; have hlt : i < es.length := (by first | omega | (rw [List.length_set]; omega) | (rw [hdl]; omega) | (rw [List.length_set, hdl]; omega)); omega)) (cells_elem fE_len (0, 0) (show i < es.length from (by first | omega | (rw [List.length_set]; omega) | (rw [hdl]; omega) | (rw [List.length_set, hdl]; omega)))) rfl) rfl rfl rfl ?_
    have hei := hes _ (getD_mem (xs := es) (k := i) (0, 0) (by omega))
    have hla := hls _ (getD_mem (xs := ls) (k := (es.getD i (0, 0)).1.toNat) 0 (by have := hei.1; have := hei.2.1; have := hei.2.2; omega))
    have hlb0 := hls _ (getD_mem (xs := ls) (k := (es.getD i (0, 0)).2.toNat) 0 (by have := hei.1; have := hei.2.1; have := hei.2.2; omega))
    obtain ⟨he1, he2, he3⟩ := id hei
    refine wl_r (or_alloc tI43 rfl) rfl rfl (kt1 rfl (fun g9 => ?_))
    refine wl_r0 (or_store_blk (vs := [.int .i64 ((es.getD i (0, 0)).1), .int .i64 ((es.getD i (0, 0)).2)]) (cs' := [.int .i64 ((es.getD i (0, 0)).1), .int .i64 ((es.getD i (0, 0)).2)]) (.head) tI43 rfl rfl rfl rfl (Nat.le_of_ble_eq_true rfl) rfl) rfl rfl (kn0 ?_)
    refine wl_nil ?_
    refine ce_then ?_
    refine cw_seq ?_
    refine cw_seq ?_
    refine cw_region ?_
    refine wl_v (ov_load tI31 (holds_blk (List.Mem.tail _ (List.Mem.head _))) rfl rfl) rfl rfl rfl ?_
    refine wl_v (ov_fieldAddr fI43_0 some_lit rfl) rfl rfl rfl ?_
    refine wl_v (ov_load tI3 (holds_blk (List.Mem.head _)) rfl rfl) rfl rfl rfl ?_
    refine wl_v (ov_indexg sI31 tI3 rfl rfl (some_holds (q := (((es.getD i (0, 0)).1).toNat) * 1) (holds_row (List.Mem.tail _ (List.Mem.tail _ (List.Mem.head _)))) (by rw [cells_length fI_len]; have hlt : ((es.getD i (0, 0)).1).toNat < ls.length := (by first | omega | (rw [List.length_set]; omega) | (rw [hdl]; omega) | (rw [List.length_set, hdl]; omega)); omega)) (by first | omega | (rw [List.length_set]; omega) | (rw [hdl]; omega) | (rw [List.length_set, hdl]; omega)) (show ((es.getD i (0, 0)).1).toNat < m from (by first | omega | (rw [List.length_set]; omega) | (rw [hdl]; omega) | (rw [List.length_set, hdl]; omega)))) rfl rfl rfl ?_
    refine wl_v (ov_load tI3 (holds_row (List.Mem.tail _ (List.Mem.tail _ (List.Mem.head _)))) rfl (get_fI (show ((es.getD i (0, 0)).1).toNat < ls.length from (by first | omega | (rw [List.length_set]; omega) | (rw [hdl]; omega) | (rw [List.length_set, hdl]; omega))))) rfl rfl rfl ?_
    refine wl_if (ov_gtr rfl rfl) rfl rfl rfl (fun c35 => ?_) (fun c35 => ?_)
    ·
      refine wl_v (ov_move rfl) rfl rfl rfl ?_
      refine wl_go rfl rfl ?_
      refine wl_v (ov_load tI31 (holds_blk (List.Mem.tail _ (List.Mem.head _))) rfl rfl) rfl rfl rfl ?_
      refine wl_go rfl rfl ?_
      refine wl_v (ov_fieldAddr fI43_1 some_lit rfl) rfl rfl rfl ?_
      refine wl_go rfl rfl ?_
      refine wl_v (ov_load tI3 (holds_blk (List.Mem.head _)) rfl rfl) rfl rfl rfl ?_
      refine wl_go rfl rfl ?_
      refine wl_v (ov_indexg sI31 tI3 rfl rfl (some_holds (q := (((es.getD i (0, 0)).2).toNat) * 1) (holds_row (List.Mem.tail _ (List.Mem.tail _ (List.Mem.head _)))) (by rw [cells_length fI_len]; have hlt : ((es.getD i (0, 0)).2).toNat < ls.length := (by first | omega | (rw [List.length_set]; omega) | (rw [hdl]; omega) | (rw [List.length_set, hdl]; omega)); omega)) (by first | omega | (rw [List.length_set]; omega) | (rw [hdl]; omega) | (rw [List.length_set, hdl]; omega)) (show ((es.getD i (0, 0)).2).toNat < m from (by first | omega | (rw [List.length_set]; omega) | (rw [hdl]; omega) | (rw [List.length_set, hdl]; omega)))) rfl rfl rfl ?_
      refine wl_go rfl rfl ?_
      refine wl_v (ov_load tI3 (holds_row (List.Mem.tail _ (List.Mem.tail _ (List.Mem.head _)))) rfl (get_fI (show ((es.getD i (0, 0)).2).toNat < ls.length from (by first | omega | (rw [List.length_set]; omega) | (rw [hdl]; omega) | (rw [List.length_set, hdl]; omega))))) rfl rfl rfl ?_
      refine wl_go rfl rfl ?_
      refine wl_if (ov_gtr rfl rfl) rfl rfl rfl (fun c42 => ?_) (fun c42 => ?_)
      ·
        have hmay : mayE ls (es.getD i (0, 0)) := ⟨by omega, by omega⟩
        have hz : allR (es.drop i) ls ch = allR (es.drop (i + 1)) (decE ls (es.getD i (0, 0))) (ch ++ [es.getD i (0, 0)]) ++ allR (es.drop (i + 1)) ls ch := allR_yes (by omega) hmay
        have hlb : (ls.set (es.getD i (0, 0)).1.toNat (ls.getD (es.getD i (0, 0)).1.toNat 0 - 1)).getD (es.getD i (0, 0)).2.toNat 0 = ls.getD (es.getD i (0, 0)).2.toNat 0 := getD_set_neI (by omega)
        have hdb := decE_bd (el.symm ▸ hei) hmay hls
        have hdl := decE_length ls (es.getD i (0, 0))
        rw [hz, List.length_append] at hlim
        refine wl_v (ov_pick_t rfl rfl) rfl rfl rfl ?_
        refine wl_nil ?_
        refine ce_then ?_
        refine cw_true rfl ?_
        refine cw_seq ?_
        refine cw_region ?_
        refine wl_v (ov_load tI31 (holds_blk (List.Mem.tail _ (List.Mem.head _))) rfl rfl) rfl rfl rfl ?_
        refine wl_v (ov_fieldAddr fI43_0 some_lit rfl) rfl rfl rfl ?_
        refine wl_v (ov_load tI3 (holds_blk (List.Mem.head _)) rfl rfl) rfl rfl rfl ?_
        refine wl_v (ov_indexg sI31 tI3 rfl rfl (some_holds (q := (((es.getD i (0, 0)).1).toNat) * 1) (holds_row (List.Mem.tail _ (List.Mem.tail _ (List.Mem.head _)))) (by rw [cells_length fI_len]; have hlt : ((es.getD i (0, 0)).1).toNat < ls.length := (by first | omega | (rw [List.length_set]; omega) | (rw [hdl]; omega) | (rw [List.length_set, hdl]; omega)); omega)) (by first | omega | (rw [List.length_set]; omega) | (rw [hdl]; omega) | (rw [List.length_set, hdl]; omega)) (show ((es.getD i (0, 0)).1).toNat < m from (by first | omega | (rw [List.length_set]; omega) | (rw [hdl]; omega) | (rw [List.length_set, hdl]; omega)))) rfl rfl rfl ?_
        refine wl_v (ov_load tI3 (holds_row (List.Mem.tail _ (List.Mem.tail _ (List.Mem.head _)))) rfl (get_fI (show ((es.getD i (0, 0)).1).toNat < ls.length from (by first | omega | (rw [List.length_set]; omega) | (rw [hdl]; omega) | (rw [List.length_set, hdl]; omega))))) rfl rfl rfl ?_
        refine wl_v (ov_sub (r := (ls.getD (((es.getD i (0, 0)).1).toNat) 0) - 1) rfl rfl rfl (by omega)) rfl rfl rfl ?_
        refine wl_v (ov_indexg sI31 tI3 rfl rfl (some_holds (q := (((es.getD i (0, 0)).1).toNat) * 1) (holds_row (List.Mem.tail _ (List.Mem.tail _ (List.Mem.head _)))) (by rw [cells_length fI_len]; have hlt : ((es.getD i (0, 0)).1).toNat < ls.length := (by first | omega | (rw [List.length_set]; omega) | (rw [hdl]; omega) | (rw [List.length_set, hdl]; omega)); omega)) (by first | omega | (rw [List.length_set]; omega) | (rw [hdl]; omega) | (rw [List.length_set, hdl]; omega)) (show ((es.getD i (0, 0)).1).toNat < m from (by first | omega | (rw [List.length_set]; omega) | (rw [hdl]; omega) | (rw [List.length_set, hdl]; omega)))) rfl rfl rfl ?_
        refine wl_r0 (or_store_row (vs := [.int .i64 ((ls.getD (((es.getD i (0, 0)).1).toNat) 0) - 1)]) (cs' := cells fI (ls.set (((es.getD i (0, 0)).1).toNat) ((ls.getD (((es.getD i (0, 0)).1).toNat) 0) - 1))) (.tail (.tail .head)) tI3 rfl rfl rfl rfl (by rw [cells_length fI_len]; have hlt := (show ((es.getD i (0, 0)).1).toNat < ls.length from (by first | omega | (rw [List.length_set]; omega) | (rw [hdl]; omega) | (rw [List.length_set, hdl]; omega))); simp only [List.length_cons, List.length_nil]; omega) (by simp) (cells_splice fI_len (show ((es.getD i (0, 0)).1).toNat < ls.length from (by first | omega | (rw [List.length_set]; omega) | (rw [hdl]; omega) | (rw [List.length_set, hdl]; omega))) ((ls.getD (((es.getD i (0, 0)).1).toNat) 0) - 1))) rfl rfl (kn0 ?_)
        refine wl_nil ?_
        refine ce_then ?_
        refine cw_seq ?_
        refine cw_region ?_
        refine wl_v (ov_load tI31 (holds_blk (List.Mem.tail _ (List.Mem.tail _ (List.Mem.head _)))) rfl rfl) rfl rfl rfl ?_
        refine wl_v (ov_fieldAddr fI43_1 some_lit rfl) rfl rfl rfl ?_
        refine wl_v (ov_load tI3 (holds_blk (List.Mem.tail _ (List.Mem.head _))) rfl rfl) rfl rfl rfl ?_
        refine wl_v (ov_indexg sI31 tI3 rfl rfl (some_holds (q := (((es.getD i (0, 0)).2).toNat) * 1) (holds_row (List.Mem.head _)) (by rw [cells_length fI_len]; have hlt : ((es.getD i (0, 0)).2).toNat < (ls.set (((es.getD i (0, 0)).1).toNat) ((ls.getD (((es.getD i (0, 0)).1).toNat) 0) - 1)).length := (by first | omega | (rw [List.length_set]; omega) | (rw [hdl]; omega) | (rw [List.length_set, hdl]; omega)); omega)) (by first | omega | (rw [List.length_set]; omega) | (rw [hdl]; omega) | (rw [List.length_set, hdl]; omega)) (show ((es.getD i (0, 0)).2).toNat < m from (by first | omega | (rw [List.length_set]; omega) | (rw [hdl]; omega) | (rw [List.length_set, hdl]; omega)))) rfl rfl rfl ?_
        refine wl_v (ov_load tI3 (holds_row (List.Mem.head _)) rfl (get_fI (show ((es.getD i (0, 0)).2).toNat < (ls.set (((es.getD i (0, 0)).1).toNat) ((ls.getD (((es.getD i (0, 0)).1).toNat) 0) - 1)).length from (by first | omega | (rw [List.length_set]; omega) | (rw [hdl]; omega) | (rw [List.length_set, hdl]; omega))))) rfl rfl rfl ?_
        refine wl_v (ov_sub (r := ((ls.set (((es.getD i (0, 0)).1).toNat) ((ls.getD (((es.getD i (0, 0)).1).toNat) 0) - 1)).getD (((es.getD i (0, 0)).2).toNat) 0) - 1) rfl rfl rfl (by omega)) rfl rfl rfl ?_
        refine wl_v (ov_indexg sI31 tI3 rfl rfl (some_holds (q := (((es.getD i (0, 0)).2).toNat) * 1) (holds_row (List.Mem.head _)) (by rw [cells_length fI_len]; have hlt : ((es.getD i (0, 0)).2).toNat < (ls.set (((es.getD i (0, 0)).1).toNat) ((ls.getD (((es.getD i (0, 0)).1).toNat) 0) - 1)).length := (by first | omega | (rw [List.length_set]; omega) | (rw [hdl]; omega) | (rw [List.length_set, hdl]; omega)); omega)) (by first | omega | (rw [List.length_set]; omega) | (rw [hdl]; omega) | (rw [List.length_set, hdl]; omega)) (show ((es.getD i (0, 0)).2).toNat < m from (by first | omega | (rw [List.length_set]; omega) | (rw [hdl]; omega) | (rw [List.length_set, hdl]; omega)))) rfl rfl rfl ?_
        refine wl_r0 (or_store_row (vs := [.int .i64 (((ls.set (((es.getD i (0, 0)).1).toNat) ((ls.getD (((es.getD i (0, 0)).1).toNat) 0) - 1)).getD (((es.getD i (0, 0)).2).toNat) 0) - 1)]) (cs' := cells fI ((ls.set (((es.getD i (0, 0)).1).toNat) ((ls.getD (((es.getD i (0, 0)).1).toNat) 0) - 1)).set (((es.getD i (0, 0)).2).toNat) (((ls.set (((es.getD i (0, 0)).1).toNat) ((ls.getD (((es.getD i (0, 0)).1).toNat) 0) - 1)).getD (((es.getD i (0, 0)).2).toNat) 0) - 1))) (.head) tI3 rfl rfl rfl rfl (by rw [cells_length fI_len]; have hlt := (show ((es.getD i (0, 0)).2).toNat < (ls.set (((es.getD i (0, 0)).1).toNat) ((ls.getD (((es.getD i (0, 0)).1).toNat) 0) - 1)).length from (by first | omega | (rw [List.length_set]; omega) | (rw [hdl]; omega) | (rw [List.length_set, hdl]; omega))); simp only [List.length_cons, List.length_nil]; omega) (by simp) (cells_splice fI_len (show ((es.getD i (0, 0)).2).toNat < (ls.set (((es.getD i (0, 0)).1).toNat) ((ls.getD (((es.getD i (0, 0)).1).toNat) 0) - 1)).length from (by first | omega | (rw [List.length_set]; omega) | (rw [hdl]; omega) | (rw [List.length_set, hdl]; omega))) (((ls.set (((es.getD i (0, 0)).1).toNat) ((ls.getD (((es.getD i (0, 0)).1).toNat) 0) - 1)).getD (((es.getD i (0, 0)).2).toNat) 0) - 1))) rfl rfl (kn0 ?_)
        refine wl_nil ?_
        refine ce_then ?_
        refine cw_seq ?_
        refine ct_keep (L' := [(0, .int .i64 (((i : Nat) : Int))), (1, elp (some ⟨gf, 0, none⟩) (0)), (2, elp (some ⟨gl, 0, none⟩) (0)), (3, elp (some ⟨gp, 0, none⟩) (0)), (4, elp (some ⟨gn, 0, none⟩) (0)), (5, elp (some ⟨gc, 0, none⟩) (0)), (6, elp (some ⟨gw, 0, none⟩) (0)), (8, .bool false), (9, elp (some ⟨g9, 0, none⟩) (0)), (11, .int .i64 (((i : Nat) : Int))), (12, .slice Af (nf) (cf)), (13, .int .i64 (((nf : Nat) : Int))), (14, .bool false), (26, .slice Af (nf) (cf)), (27, .int .i64 (((i : Nat) : Int))), (28, elp Af (i * 2)), (29, .agg #[.int .i64 ((es.getD i (0, 0)).1), .int .i64 ((es.getD i (0, 0)).2)]), (30, .slice Al (m) (kl)), (31, elp (some ⟨g9, 0, none⟩) (0)), (32, .int .i64 ((es.getD i (0, 0)).1)), (33, elp Al ((((es.getD i (0, 0)).1).toNat) * 1)), (34, .int .i64 ((ls.getD (((es.getD i (0, 0)).1).toNat) 0))), (35, .bool true), (36, .bool true), (37, .slice Al (m) (kl)), (38, elp (some ⟨g9, 0, none⟩) (1)), (39, .int .i64 ((es.getD i (0, 0)).2)), (40, elp Al ((((es.getD i (0, 0)).2).toNat) * 1)), (41, .int .i64 ((ls.getD (((es.getD i (0, 0)).2).toNat) 0))), (42, .bool true), (43, .bool true), (44, .slice Al (m) (kl)), (45, elp (some ⟨g9, 0, none⟩) (0)), (46, .int .i64 ((es.getD i (0, 0)).1)), (47, elp Al ((((es.getD i (0, 0)).1).toNat) * 1)), (48, .int .i64 ((ls.getD (((es.getD i (0, 0)).1).toNat) 0))), (49, .int .i64 ((ls.getD (((es.getD i (0, 0)).1).toNat) 0) - 1)), (50, elp Al ((((es.getD i (0, 0)).1).toNat) * 1)), (51, .slice Al (m) (kl)), (52, elp (some ⟨g9, 0, none⟩) (1)), (53, .int .i64 ((es.getD i (0, 0)).2)), (54, elp Al ((((es.getD i (0, 0)).2).toNat) * 1)), (55, .int .i64 (((ls.set (((es.getD i (0, 0)).1).toNat) ((ls.getD (((es.getD i (0, 0)).1).toNat) 0) - 1)).getD (((es.getD i (0, 0)).2).toNat) 0))), (56, .int .i64 (((ls.set (((es.getD i (0, 0)).1).toNat) ((ls.getD (((es.getD i (0, 0)).1).toNat) 0) - 1)).getD (((es.getD i (0, 0)).2).toNat) 0) - 1)), (57, elp Al ((((es.getD i (0, 0)).2).toNat) * 1))]) (.cons rfl (.cons rfl (.cons rfl (.cons rfl (.cons rfl (.cons rfl (.cons rfl (.cons rfl (.cons rfl (.cons rfl (.cons rfl (.cons rfl (.cons rfl (.cons rfl (.cons rfl (.cons rfl (.cons rfl (.cons rfl (.cons rfl (.cons rfl (.cons rfl (.cons rfl (.cons rfl (.cons rfl (.cons rfl (.cons rfl (.cons rfl (.cons rfl (.cons rfl (.cons rfl (.cons rfl (.cons rfl (.cons rfl (.cons rfl (.cons rfl (.cons rfl (.cons rfl (.cons rfl (.cons rfl (.cons rfl (.cons rfl (.cons rfl (.cons rfl (.cons rfl (.cons rfl (.nil)))))))))))))))))))))))))))))))))))))))))))))) (.consE (show row 3 1 Al (m) (cl) (cells fI ((ls.set (((es.getD i (0, 0)).1).toNat) ((ls.getD (((es.getD i (0, 0)).1).toNat) 0) - 1)).set (((es.getD i (0, 0)).2).toNat) (((ls.set (((es.getD i (0, 0)).1).toNat) ((ls.getD (((es.getD i (0, 0)).1).toNat) 0) - 1)).getD (((es.getD i (0, 0)).2).toNat) 0) - 1))) = row 3 1 Al (m) (cl) (cells fI (decE ls (es.getD i (0, 0)))) by rfl) (.head) (.cons (.head) (.cons (.head) (.cons (.head) (.cons (.head) (.cons (.head) (.refl))))))) ?_
        refine cw_region ?_
        refine wl_v (ov_load tI23 (holds_blk (List.Mem.tail _ (List.Mem.tail _ (List.Mem.tail _ (List.Mem.head _))))) rfl rfl) rfl rfl rfl ?_
        refine wl_v (ov_loadAgg (vs := [.int .i64 ((es.getD i (0, 0)).1), .int .i64 ((es.getD i (0, 0)).2)]) tI43 (holds_blk (List.Mem.tail _ (List.Mem.head _))) rfl some_lit rfl rfl) rfl rfl rfl ?_
        refine wl_r (or_buildSlice (e := 43) (size := 2) (is := [0]) (vs := [.agg #[.int .i64 ((es.getD i (0, 0)).1), .int .i64 ((es.getD i (0, 0)).2)]]) (cs := cells fE ([((es.getD i (0, 0)).1, (es.getD i (0, 0)).2)])) rfl rfl rfl (by decide) (fun _ => by kernel_rfl)) rfl rfl (kt1 rfl (fun g60 => ?_))
        refine wl_r (or_append (c2 := 1) sI23 tI43 rfl (by decide) rfl rfl (.tail (.tail (.tail (.tail (.tail .head))))) (holds_row (List.Mem.head _)) ((by rw [cells_length fE_len]; rfl)) (one_cells fE_one _) cells_append (by omega) (by omega)) rfl rfl (kt2p rfl (fun A61 c61 h61 => ?_))
        refine wl_r0 (or_store_blk (vs := [.slice A61 (nc + 1) (c61)]) (cs' := [.slice A61 (nc + 1) (c61)]) (.tail (.tail (.tail (.tail (.tail .head))))) tI23 rfl rfl rfl rfl (Nat.le_of_ble_eq_true rfl) rfl) rfl rfl (kn0 ?_)
        refine wl_nil ?_
        refine ce_then ?_
        refine cw_seq ?_
        refine ct_keep (L' := [(0, .int .i64 (((i : Nat) : Int))), (1, elp (some ⟨gf, 0, none⟩) (0)), (2, elp (some ⟨gl, 0, none⟩) (0)), (3, elp (some ⟨gp, 0, none⟩) (0)), (4, elp (some ⟨gn, 0, none⟩) (0)), (5, elp (some ⟨gc, 0, none⟩) (0)), (6, elp (some ⟨gw, 0, none⟩) (0)), (8, .bool false), (9, elp (some ⟨g9, 0, none⟩) (0)), (11, .int .i64 (((i : Nat) : Int))), (12, .slice Af (nf) (cf)), (13, .int .i64 (((nf : Nat) : Int))), (14, .bool false), (26, .slice Af (nf) (cf)), (27, .int .i64 (((i : Nat) : Int))), (28, elp Af (i * 2)), (29, .agg #[.int .i64 ((es.getD i (0, 0)).1), .int .i64 ((es.getD i (0, 0)).2)]), (30, .slice Al (m) (kl)), (31, elp (some ⟨g9, 0, none⟩) (0)), (32, .int .i64 ((es.getD i (0, 0)).1)), (33, elp Al ((((es.getD i (0, 0)).1).toNat) * 1)), (34, .int .i64 ((ls.getD (((es.getD i (0, 0)).1).toNat) 0))), (35, .bool true), (36, .bool true), (37, .slice Al (m) (kl)), (38, elp (some ⟨g9, 0, none⟩) (1)), (39, .int .i64 ((es.getD i (0, 0)).2)), (40, elp Al ((((es.getD i (0, 0)).2).toNat) * 1)), (41, .int .i64 ((ls.getD (((es.getD i (0, 0)).2).toNat) 0))), (42, .bool true), (43, .bool true), (44, .slice Al (m) (kl)), (45, elp (some ⟨g9, 0, none⟩) (0)), (46, .int .i64 ((es.getD i (0, 0)).1)), (47, elp Al ((((es.getD i (0, 0)).1).toNat) * 1)), (48, .int .i64 ((ls.getD (((es.getD i (0, 0)).1).toNat) 0))), (49, .int .i64 ((ls.getD (((es.getD i (0, 0)).1).toNat) 0) - 1)), (50, elp Al ((((es.getD i (0, 0)).1).toNat) * 1)), (51, .slice Al (m) (kl)), (52, elp (some ⟨g9, 0, none⟩) (1)), (53, .int .i64 ((es.getD i (0, 0)).2)), (54, elp Al ((((es.getD i (0, 0)).2).toNat) * 1)), (55, .int .i64 (((ls.set (((es.getD i (0, 0)).1).toNat) ((ls.getD (((es.getD i (0, 0)).1).toNat) 0) - 1)).getD (((es.getD i (0, 0)).2).toNat) 0))), (56, .int .i64 (((ls.set (((es.getD i (0, 0)).1).toNat) ((ls.getD (((es.getD i (0, 0)).1).toNat) 0) - 1)).getD (((es.getD i (0, 0)).2).toNat) 0) - 1)), (57, elp Al ((((es.getD i (0, 0)).2).toNat) * 1)), (58, .slice Ac (nc) (cc)), (59, .agg #[.int .i64 ((es.getD i (0, 0)).1), .int .i64 ((es.getD i (0, 0)).2)]), (60, .slice (some ⟨g60, 0, none⟩) (1) (1)), (61, .slice A61 (nc + 1) (c61))]) (.cons rfl (.cons rfl (.cons rfl (.cons rfl (.cons rfl (.cons rfl (.cons rfl (.cons rfl (.cons rfl (.cons rfl (.cons rfl (.cons rfl (.cons rfl (.cons rfl (.cons rfl (.cons rfl (.cons rfl (.cons rfl (.cons rfl (.cons rfl (.cons rfl (.cons rfl (.cons rfl (.cons rfl (.cons rfl (.cons rfl (.cons rfl (.cons rfl (.cons rfl (.cons rfl (.cons rfl (.cons rfl (.cons rfl (.cons rfl (.cons rfl (.cons rfl (.cons rfl (.cons rfl (.cons rfl (.cons rfl (.cons rfl (.cons rfl (.cons rfl (.cons rfl (.cons rfl (.cons rfl (.cons rfl (.cons rfl (.cons rfl (.nil)))))))))))))))))))))))))))))))))))))))))))))))))) (.cons (.head) (.consE (show row 43 2 A61 (nc + 1) (c61) (cells fE (ch ++ ([((es.getD i (0, 0)).1, (es.getD i (0, 0)).2)]))) = row 43 2 A61 (nc + 1) (c61) (cells fE (ch ++ [es.getD i (0, 0)])) by rfl) (.head) (.cons (.head) (.cons (.head) (.cons (.head) (.cons (.head) (.cons (.head) (.refl)))))))) ?_
        refine cw_region ?_
        refine wl_v (ov_load tI107 (Holds.keepF hgw ((.drop (.drop (.drop (.drop (.drop (.drop (.drop .refl))))))))) rfl rfl) rfl rfl rfl ?_
        refine wl_v (ov_move rfl) rfl rfl rfl ?_
        refine wl_v (ov_add (r := ((i + 1 : Nat) : Int)) rfl rfl rfl (by omega)) rfl rfl rfl ?_
        refine wl_r (or_call (fv := []) (vs := [.int .i64 (((i + 1 : Nat) : Int))]) (cs := [elp (some ⟨gf, 0, none⟩) (0), elp (some ⟨gl, 0, none⟩) (0), elp (some ⟨gp, 0, none⟩) (0), elp (some ⟨gn, 0, none⟩) (0), elp (some ⟨gc, 0, none⟩) (0), elp (some ⟨gw, 0, none⟩) (0)]) en118 rfl rfl (call_o (.cons (.tail (.tail (.tail (.tail (.tail .head))))) (.cons (.tail (.tail (.tail .head))) (.cons (.head) (.cons (.head) (.cons (.tail (.tail .head)) (.cons (.head) (.cons (.head) (.refl)))))))) (fun w hw => sub1_c w _ _ _ (i + 1) gf gp gn gw gl Al m kl cl (decE ls (es.getD i (0, 0))) gc A61 (nc + 1) c61 (ch ++ [es.getD i (0, 0)]) Af nf cf es Fc cs _ G J lim b s (Holds.keepF hgf ((.drop (.drop .refl)))) (Holds.keepF hgp ((.drop (.drop .refl)))) (Holds.keepF hgn ((.drop (.drop .refl)))) (Holds.keepF hgw ((.drop (.drop .refl)))) (by first | assumption | omega | (simp; omega)) (hdl.trans el) h61 (by rw [List.length_append, ec]; rfl) (Holds.keepF hAf ((.drop (.drop .refl)))) eAf lAf hen hf hJ (by first | assumption | omega | (simp; omega)) hes hdb (by omega) hw))) rfl rfl (kt3p rfl (fun s2_65 A5_65 c5_65 h_65 => ?_))
        refine wl_v (ov_assign rfl) rfl rfl rfl ?_
        refine wl_nil ?_
        refine ce_then ?_
        refine cw_seq ?_
        refine cw_region ?_
        refine wl_v (ov_load tI23 (holds_blk (List.Mem.tail _ (List.Mem.tail _ (List.Mem.head _)))) rfl rfl) rfl rfl rfl ?_
        refine wl_v (ov_load tI23 (holds_blk (List.Mem.tail _ (List.Mem.tail _ (List.Mem.head _)))) rfl rfl) rfl rfl rfl ?_
        refine wl_v (ov_len (sliceI_spec sI23) rfl) rfl rfl rfl ?_
        refine wl_v (ov_sub (r := ((nc : Nat) : Int)) rfl rfl (by omega) (by omega)) rfl rfl rfl ?_
        refine wl_v (ov_slice_h (h := nc) sI23 tI43 rfl rfl (by omega)) rfl rfl rfl ?_
        refine wl_r0 (or_store_blk (vs := [.slice A5_65 (nc) (c5_65)]) (cs' := [.slice A5_65 (nc) (c5_65)]) (.tail (.tail .head)) tI23 rfl rfl rfl rfl (Nat.le_of_ble_eq_true rfl) rfl) rfl rfl (kn0 ?_)
        refine wl_nil ?_
        refine ce_then ?_
        refine cw_seq ?_
        refine ct_first (k := nc) (.cons (.tail (.tail (.tail .head))) (.cons (.head) (.cons (.head) (.cons (.head) (.cons (.head) (.cons (.head) (.cons (.head) (.refl)))))))) fE_len (by omega) ?_
        refine ct_keep (L' := [(0, .int .i64 (((i : Nat) : Int))), (1, elp (some ⟨gf, 0, none⟩) (0)), (2, elp (some ⟨gl, 0, none⟩) (0)), (3, elp (some ⟨gp, 0, none⟩) (0)), (4, elp (some ⟨gn, 0, none⟩) (0)), (5, elp (some ⟨gc, 0, none⟩) (0)), (6, elp (some ⟨gw, 0, none⟩) (0)), (8, .bool false), (9, elp (some ⟨g9, 0, none⟩) (0)), (10, .bool (moreB b (allR (es.drop (i + 1)) (decE ls (es.getD i (0, 0))) (ch ++ [es.getD i (0, 0)])))), (11, .int .i64 (((i : Nat) : Int))), (12, .slice Af (nf) (cf)), (13, .int .i64 (((nf : Nat) : Int))), (14, .bool false), (26, .slice Af (nf) (cf)), (27, .int .i64 (((i : Nat) : Int))), (28, elp Af (i * 2)), (29, .agg #[.int .i64 ((es.getD i (0, 0)).1), .int .i64 ((es.getD i (0, 0)).2)]), (30, .slice Al (m) (kl)), (31, elp (some ⟨g9, 0, none⟩) (0)), (32, .int .i64 ((es.getD i (0, 0)).1)), (33, elp Al ((((es.getD i (0, 0)).1).toNat) * 1)), (34, .int .i64 ((ls.getD (((es.getD i (0, 0)).1).toNat) 0))), (35, .bool true), (36, .bool true), (37, .slice Al (m) (kl)), (38, elp (some ⟨g9, 0, none⟩) (1)), (39, .int .i64 ((es.getD i (0, 0)).2)), (40, elp Al ((((es.getD i (0, 0)).2).toNat) * 1)), (41, .int .i64 ((ls.getD (((es.getD i (0, 0)).2).toNat) 0))), (42, .bool true), (43, .bool true), (44, .slice Al (m) (kl)), (45, elp (some ⟨g9, 0, none⟩) (0)), (46, .int .i64 ((es.getD i (0, 0)).1)), (47, elp Al ((((es.getD i (0, 0)).1).toNat) * 1)), (48, .int .i64 ((ls.getD (((es.getD i (0, 0)).1).toNat) 0))), (49, .int .i64 ((ls.getD (((es.getD i (0, 0)).1).toNat) 0) - 1)), (50, elp Al ((((es.getD i (0, 0)).1).toNat) * 1)), (51, .slice Al (m) (kl)), (52, elp (some ⟨g9, 0, none⟩) (1)), (53, .int .i64 ((es.getD i (0, 0)).2)), (54, elp Al ((((es.getD i (0, 0)).2).toNat) * 1)), (55, .int .i64 (((ls.set (((es.getD i (0, 0)).1).toNat) ((ls.getD (((es.getD i (0, 0)).1).toNat) 0) - 1)).getD (((es.getD i (0, 0)).2).toNat) 0))), (56, .int .i64 (((ls.set (((es.getD i (0, 0)).1).toNat) ((ls.getD (((es.getD i (0, 0)).1).toNat) 0) - 1)).getD (((es.getD i (0, 0)).2).toNat) 0) - 1)), (57, elp Al ((((es.getD i (0, 0)).2).toNat) * 1)), (58, .slice Ac (nc) (cc)), (59, .agg #[.int .i64 ((es.getD i (0, 0)).1), .int .i64 ((es.getD i (0, 0)).2)]), (60, .slice (some ⟨g60, 0, none⟩) (1) (1)), (61, .slice A61 (nc + 1) (c61)), (62, .func (.func 118) #[] #[elp (some ⟨gf, 0, none⟩) (0), elp (some ⟨gl, 0, none⟩) (0), elp (some ⟨gp, 0, none⟩) (0), elp (some ⟨gn, 0, none⟩) (0), elp (some ⟨gc, 0, none⟩) (0), elp (some ⟨gw, 0, none⟩) (0)]), (63, .int .i64 (((i : Nat) : Int))), (64, .int .i64 (((i + 1 : Nat) : Int))), (65, .bool (moreB b (allR (es.drop (i + 1)) (decE ls (es.getD i (0, 0))) (ch ++ [es.getD i (0, 0)])))), (66, .slice A5_65 ((nc + 1)) (c5_65)), (67, .slice A5_65 ((nc + 1)) (c5_65)), (68, .int .i64 ((((nc + 1) : Nat) : Int))), (69, .int .i64 (((nc : Nat) : Int))), (70, .slice A5_65 (nc) (c5_65))]) (.cons rfl (.cons rfl (.cons rfl (.cons rfl (.cons rfl (.cons rfl (.cons rfl (.cons rfl (.cons rfl (.cons rfl (.cons rfl (.cons rfl (.cons rfl (.cons rfl (.cons rfl (.cons rfl (.cons rfl (.cons rfl (.cons rfl (.cons rfl (.cons rfl (.cons rfl (.cons rfl (.cons rfl (.cons rfl (.cons rfl (.cons rfl (.cons rfl (.cons rfl (.cons rfl (.cons rfl (.cons rfl (.cons rfl (.cons rfl (.cons rfl (.cons rfl (.cons rfl (.cons rfl (.cons rfl (.cons rfl (.cons rfl (.cons rfl (.cons rfl (.cons rfl (.cons rfl (.cons rfl (.cons rfl (.cons rfl (.cons rfl (.cons rfl (.cons rfl (.cons rfl (.cons rfl (.cons rfl (.cons rfl (.cons rfl (.cons rfl (.cons rfl (.cons rfl (.nil)))))))))))))))))))))))))))))))))))))))))))))))))))))))))))) (.consE (show row 43 2 A5_65 (nc) (c5_65) (cells fE ((ch ++ [es.getD i (0, 0)]).take nc)) = row 43 2 A5_65 (nc) (c5_65) (cells fE ch) by rw [show (ch ++ [es.getD i (0, 0)]).take nc = ch from by rw [← ec]; exact List.take_left]) (.head) (.cons (.head) (.cons (.head) (.cons (.head) (.cons (.head) (.cons (.head) (.cons (.head) (.refl)))))))) ?_
        have hda : (decE ls (es.getD i (0, 0))).getD (es.getD i (0, 0)).1.toNat 0 = ls.getD (es.getD i (0, 0)).1.toNat 0 - 1 := by rw [decE_get (el.symm ▸ hei), if_pos (by omega)]
        have hdb2 : (decE ls (es.getD i (0, 0))).getD (es.getD i (0, 0)).2.toNat 0 = ls.getD (es.getD i (0, 0)).2.toNat 0 - 1 := by rw [decE_get (el.symm ▸ hei), if_pos (by omega)]
        have hdc : ((decE ls (es.getD i (0, 0))).set (es.getD i (0, 0)).1.toNat ((decE ls (es.getD i (0, 0))).getD (es.getD i (0, 0)).1.toNat 0 + 1)).getD (es.getD i (0, 0)).2.toNat 0 = (decE ls (es.getD i (0, 0))).getD (es.getD i (0, 0)).2.toNat 0 := getD_set_neI (by omega)
        refine cw_region ?_
        refine wl_v (ov_load tI31 (holds_blk (List.Mem.tail _ (List.Mem.tail _ (List.Mem.head _)))) rfl rfl) rfl rfl rfl ?_
        refine wl_v (ov_fieldAddr fI43_0 some_lit rfl) rfl rfl rfl ?_
        refine wl_v (ov_load tI3 (holds_blk (List.Mem.tail _ (List.Mem.tail _ (List.Mem.tail _ (List.Mem.tail _ (List.Mem.tail _ (List.Mem.tail _ (List.Mem.head _)))))))) rfl rfl) rfl rfl rfl ?_
        refine wl_v (ov_indexg sI31 tI3 rfl rfl (some_holds (q := (((es.getD i (0, 0)).1).toNat) * 1) (holds_row (List.Mem.tail _ (List.Mem.tail _ (List.Mem.tail _ (List.Mem.head _))))) (by rw [cells_length fI_len]; have hlt : ((es.getD i (0, 0)).1).toNat < (decE ls (es.getD i (0, 0))).length := (by first | omega | (rw [List.length_set]; omega) | (rw [hdl]; omega) | (rw [List.length_set, hdl]; omega)); omega)) (by first | omega | (rw [List.length_set]; omega) | (rw [hdl]; omega) | (rw [List.length_set, hdl]; omega)) (show ((es.getD i (0, 0)).1).toNat < m from (by first | omega | (rw [List.length_set]; omega) | (rw [hdl]; omega) | (rw [List.length_set, hdl]; omega)))) rfl rfl rfl ?_
        refine wl_v (ov_load tI3 (holds_row (List.Mem.tail _ (List.Mem.tail _ (List.Mem.tail _ (List.Mem.head _))))) rfl (get_fI (show ((es.getD i (0, 0)).1).toNat < (decE ls (es.getD i (0, 0))).length from (by first | omega | (rw [List.length_set]; omega) | (rw [hdl]; omega) | (rw [List.length_set, hdl]; omega))))) rfl rfl rfl ?_
        refine wl_v (ov_add (r := ((decE ls (es.getD i (0, 0))).getD (((es.getD i (0, 0)).1).toNat) 0) + 1) rfl rfl rfl (by omega)) rfl rfl rfl ?_
        refine wl_v (ov_indexg sI31 tI3 rfl rfl (some_holds (q := (((es.getD i (0, 0)).1).toNat) * 1) (holds_row (List.Mem.tail _ (List.Mem.tail _ (List.Mem.tail _ (List.Mem.head _))))) (by rw [cells_length fI_len]; have hlt : ((es.getD i (0, 0)).1).toNat < (decE ls (es.getD i (0, 0))).length := (by first | omega | (rw [List.length_set]; omega) | (rw [hdl]; omega) | (rw [List.length_set, hdl]; omega)); omega)) (by first | omega | (rw [List.length_set]; omega) | (rw [hdl]; omega) | (rw [List.length_set, hdl]; omega)) (show ((es.getD i (0, 0)).1).toNat < m from (by first | omega | (rw [List.length_set]; omega) | (rw [hdl]; omega) | (rw [List.length_set, hdl]; omega)))) rfl rfl rfl ?_
        refine wl_r0 (or_store_row (vs := [.int .i64 (((decE ls (es.getD i (0, 0))).getD (((es.getD i (0, 0)).1).toNat) 0) + 1)]) (cs' := cells fI ((decE ls (es.getD i (0, 0))).set (((es.getD i (0, 0)).1).toNat) (((decE ls (es.getD i (0, 0))).getD (((es.getD i (0, 0)).1).toNat) 0) + 1))) (.tail (.tail (.tail .head))) tI3 rfl rfl rfl rfl (by rw [cells_length fI_len]; have hlt := (show ((es.getD i (0, 0)).1).toNat < (decE ls (es.getD i (0, 0))).length from (by first | omega | (rw [List.length_set]; omega) | (rw [hdl]; omega) | (rw [List.length_set, hdl]; omega))); simp only [List.length_cons, List.length_nil]; omega) (by simp) (cells_splice fI_len (show ((es.getD i (0, 0)).1).toNat < (decE ls (es.getD i (0, 0))).length from (by first | omega | (rw [List.length_set]; omega) | (rw [hdl]; omega) | (rw [List.length_set, hdl]; omega))) (((decE ls (es.getD i (0, 0))).getD (((es.getD i (0, 0)).1).toNat) 0) + 1))) rfl rfl (kn0 ?_)
        refine wl_nil ?_
        refine ce_then ?_
        refine cw_seq ?_
        refine cw_region ?_
        refine wl_v (ov_load tI31 (holds_blk (List.Mem.tail _ (List.Mem.tail _ (List.Mem.tail _ (List.Mem.head _))))) rfl rfl) rfl rfl rfl ?_
        refine wl_v (ov_fieldAddr fI43_1 some_lit rfl) rfl rfl rfl ?_
        refine wl_v (ov_load tI3 (holds_blk (List.Mem.tail _ (List.Mem.tail _ (List.Mem.tail _ (List.Mem.tail _ (List.Mem.tail _ (List.Mem.tail _ (List.Mem.head _)))))))) rfl rfl) rfl rfl rfl ?_
        refine wl_v (ov_indexg sI31 tI3 rfl rfl (some_holds (q := (((es.getD i (0, 0)).2).toNat) * 1) (holds_row (List.Mem.head _)) (by rw [cells_length fI_len]; have hlt : ((es.getD i (0, 0)).2).toNat < ((decE ls (es.getD i (0, 0))).set (((es.getD i (0, 0)).1).toNat) (((decE ls (es.getD i (0, 0))).getD (((es.getD i (0, 0)).1).toNat) 0) + 1)).length := (by first | omega | (rw [List.length_set]; omega) | (rw [hdl]; omega) | (rw [List.length_set, hdl]; omega)); omega)) (by first | omega | (rw [List.length_set]; omega) | (rw [hdl]; omega) | (rw [List.length_set, hdl]; omega)) (show ((es.getD i (0, 0)).2).toNat < m from (by first | omega | (rw [List.length_set]; omega) | (rw [hdl]; omega) | (rw [List.length_set, hdl]; omega)))) rfl rfl rfl ?_
        refine wl_v (ov_load tI3 (holds_row (List.Mem.head _)) rfl (get_fI (show ((es.getD i (0, 0)).2).toNat < ((decE ls (es.getD i (0, 0))).set (((es.getD i (0, 0)).1).toNat) (((decE ls (es.getD i (0, 0))).getD (((es.getD i (0, 0)).1).toNat) 0) + 1)).length from (by first | omega | (rw [List.length_set]; omega) | (rw [hdl]; omega) | (rw [List.length_set, hdl]; omega))))) rfl rfl rfl ?_
        refine wl_v (ov_add (r := (((decE ls (es.getD i (0, 0))).set (((es.getD i (0, 0)).1).toNat) (((decE ls (es.getD i (0, 0))).getD (((es.getD i (0, 0)).1).toNat) 0) + 1)).getD (((es.getD i (0, 0)).2).toNat) 0) + 1) rfl rfl rfl (by omega)) rfl rfl rfl ?_
        refine wl_v (ov_indexg sI31 tI3 rfl rfl (some_holds (q := (((es.getD i (0, 0)).2).toNat) * 1) (holds_row (List.Mem.head _)) (by rw [cells_length fI_len]; have hlt : ((es.getD i (0, 0)).2).toNat < ((decE ls (es.getD i (0, 0))).set (((es.getD i (0, 0)).1).toNat) (((decE ls (es.getD i (0, 0))).getD (((es.getD i (0, 0)).1).toNat) 0) + 1)).length := (by first | omega | (rw [List.length_set]; omega) | (rw [hdl]; omega) | (rw [List.length_set, hdl]; omega)); omega)) (by first | omega | (rw [List.length_set]; omega) | (rw [hdl]; omega) | (rw [List.length_set, hdl]; omega)) (show ((es.getD i (0, 0)).2).toNat < m from (by first | omega | (rw [List.length_set]; omega) | (rw [hdl]; omega) | (rw [List.length_set, hdl]; omega)))) rfl rfl rfl ?_
        refine wl_r0 (or_store_row (vs := [.int .i64 ((((decE ls (es.getD i (0, 0))).set (((es.getD i (0, 0)).1).toNat) (((decE ls (es.getD i (0, 0))).getD (((es.getD i (0, 0)).1).toNat) 0) + 1)).getD (((es.getD i (0, 0)).2).toNat) 0) + 1)]) (cs' := cells fI (((decE ls (es.getD i (0, 0))).set (((es.getD i (0, 0)).1).toNat) (((decE ls (es.getD i (0, 0))).getD (((es.getD i (0, 0)).1).toNat) 0) + 1)).set (((es.getD i (0, 0)).2).toNat) ((((decE ls (es.getD i (0, 0))).set (((es.getD i (0, 0)).1).toNat) (((decE ls (es.getD i (0, 0))).getD (((es.getD i (0, 0)).1).toNat) 0) + 1)).getD (((es.getD i (0, 0)).2).toNat) 0) + 1))) (.head) tI3 rfl rfl rfl rfl (by rw [cells_length fI_len]; have hlt := (show ((es.getD i (0, 0)).2).toNat < ((decE ls (es.getD i (0, 0))).set (((es.getD i (0, 0)).1).toNat) (((decE ls (es.getD i (0, 0))).getD (((es.getD i (0, 0)).1).toNat) 0) + 1)).length from (by first | omega | (rw [List.length_set]; omega) | (rw [hdl]; omega) | (rw [List.length_set, hdl]; omega))); simp only [List.length_cons, List.length_nil]; omega) (by simp) (cells_splice fI_len (show ((es.getD i (0, 0)).2).toNat < ((decE ls (es.getD i (0, 0))).set (((es.getD i (0, 0)).1).toNat) (((decE ls (es.getD i (0, 0))).getD (((es.getD i (0, 0)).1).toNat) 0) + 1)).length from (by first | omega | (rw [List.length_set]; omega) | (rw [hdl]; omega) | (rw [List.length_set, hdl]; omega))) ((((decE ls (es.getD i (0, 0))).set (((es.getD i (0, 0)).1).toNat) (((decE ls (es.getD i (0, 0))).getD (((es.getD i (0, 0)).1).toNat) 0) + 1)).getD (((es.getD i (0, 0)).2).toNat) 0) + 1))) rfl rfl (kn0 ?_)
        refine wl_nil ?_
        refine ce_then ?_
        refine cw_seq ?_
        refine ct_keep (L' := [(0, .int .i64 (((i : Nat) : Int))), (1, elp (some ⟨gf, 0, none⟩) (0)), (2, elp (some ⟨gl, 0, none⟩) (0)), (3, elp (some ⟨gp, 0, none⟩) (0)), (4, elp (some ⟨gn, 0, none⟩) (0)), (5, elp (some ⟨gc, 0, none⟩) (0)), (6, elp (some ⟨gw, 0, none⟩) (0)), (8, .bool false), (9, elp (some ⟨g9, 0, none⟩) (0)), (10, .bool (moreB b (allR (es.drop (i + 1)) (decE ls (es.getD i (0, 0))) (ch ++ [es.getD i (0, 0)])))), (11, .int .i64 (((i : Nat) : Int))), (12, .slice Af (nf) (cf)), (13, .int .i64 (((nf : Nat) : Int))), (14, .bool false), (26, .slice Af (nf) (cf)), (27, .int .i64 (((i : Nat) : Int))), (28, elp Af (i * 2)), (29, .agg #[.int .i64 ((es.getD i (0, 0)).1), .int .i64 ((es.getD i (0, 0)).2)]), (30, .slice Al (m) (kl)), (31, elp (some ⟨g9, 0, none⟩) (0)), (32, .int .i64 ((es.getD i (0, 0)).1)), (33, elp Al ((((es.getD i (0, 0)).1).toNat) * 1)), (34, .int .i64 ((ls.getD (((es.getD i (0, 0)).1).toNat) 0))), (35, .bool true), (36, .bool true), (37, .slice Al (m) (kl)), (38, elp (some ⟨g9, 0, none⟩) (1)), (39, .int .i64 ((es.getD i (0, 0)).2)), (40, elp Al ((((es.getD i (0, 0)).2).toNat) * 1)), (41, .int .i64 ((ls.getD (((es.getD i (0, 0)).2).toNat) 0))), (42, .bool true), (43, .bool true), (44, .slice Al (m) (kl)), (45, elp (some ⟨g9, 0, none⟩) (0)), (46, .int .i64 ((es.getD i (0, 0)).1)), (47, elp Al ((((es.getD i (0, 0)).1).toNat) * 1)), (48, .int .i64 ((ls.getD (((es.getD i (0, 0)).1).toNat) 0))), (49, .int .i64 ((ls.getD (((es.getD i (0, 0)).1).toNat) 0) - 1)), (50, elp Al ((((es.getD i (0, 0)).1).toNat) * 1)), (51, .slice Al (m) (kl)), (52, elp (some ⟨g9, 0, none⟩) (1)), (53, .int .i64 ((es.getD i (0, 0)).2)), (54, elp Al ((((es.getD i (0, 0)).2).toNat) * 1)), (55, .int .i64 (((ls.set (((es.getD i (0, 0)).1).toNat) ((ls.getD (((es.getD i (0, 0)).1).toNat) 0) - 1)).getD (((es.getD i (0, 0)).2).toNat) 0))), (56, .int .i64 (((ls.set (((es.getD i (0, 0)).1).toNat) ((ls.getD (((es.getD i (0, 0)).1).toNat) 0) - 1)).getD (((es.getD i (0, 0)).2).toNat) 0) - 1)), (57, elp Al ((((es.getD i (0, 0)).2).toNat) * 1)), (58, .slice Ac (nc) (cc)), (59, .agg #[.int .i64 ((es.getD i (0, 0)).1), .int .i64 ((es.getD i (0, 0)).2)]), (60, .slice (some ⟨g60, 0, none⟩) (1) (1)), (61, .slice A61 (nc + 1) (c61)), (62, .func (.func 118) #[] #[elp (some ⟨gf, 0, none⟩) (0), elp (some ⟨gl, 0, none⟩) (0), elp (some ⟨gp, 0, none⟩) (0), elp (some ⟨gn, 0, none⟩) (0), elp (some ⟨gc, 0, none⟩) (0), elp (some ⟨gw, 0, none⟩) (0)]), (63, .int .i64 (((i : Nat) : Int))), (64, .int .i64 (((i + 1 : Nat) : Int))), (65, .bool (moreB b (allR (es.drop (i + 1)) (decE ls (es.getD i (0, 0))) (ch ++ [es.getD i (0, 0)])))), (66, .slice A5_65 ((nc + 1)) (c5_65)), (67, .slice A5_65 ((nc + 1)) (c5_65)), (68, .int .i64 ((((nc + 1) : Nat) : Int))), (69, .int .i64 (((nc : Nat) : Int))), (70, .slice A5_65 (nc) (c5_65)), (71, .slice Al (m) (kl)), (72, elp (some ⟨g9, 0, none⟩) (0)), (73, .int .i64 ((es.getD i (0, 0)).1)), (74, elp Al ((((es.getD i (0, 0)).1).toNat) * 1)), (75, .int .i64 (((decE ls (es.getD i (0, 0))).getD (((es.getD i (0, 0)).1).toNat) 0))), (76, .int .i64 (((decE ls (es.getD i (0, 0))).getD (((es.getD i (0, 0)).1).toNat) 0) + 1)), (77, elp Al ((((es.getD i (0, 0)).1).toNat) * 1)), (78, .slice Al (m) (kl)), (79, elp (some ⟨g9, 0, none⟩) (1)), (80, .int .i64 ((es.getD i (0, 0)).2)), (81, elp Al ((((es.getD i (0, 0)).2).toNat) * 1)), (82, .int .i64 ((((decE ls (es.getD i (0, 0))).set (((es.getD i (0, 0)).1).toNat) (((decE ls (es.getD i (0, 0))).getD (((es.getD i (0, 0)).1).toNat) 0) + 1)).getD (((es.getD i (0, 0)).2).toNat) 0))), (83, .int .i64 ((((decE ls (es.getD i (0, 0))).set (((es.getD i (0, 0)).1).toNat) (((decE ls (es.getD i (0, 0))).getD (((es.getD i (0, 0)).1).toNat) 0) + 1)).getD (((es.getD i (0, 0)).2).toNat) 0) + 1)), (84, elp Al ((((es.getD i (0, 0)).2).toNat) * 1))]) (.cons rfl (.cons rfl (.cons rfl (.cons rfl (.cons rfl (.cons rfl (.cons rfl (.cons rfl (.cons rfl (.cons rfl (.cons rfl (.cons rfl (.cons rfl (.cons rfl (.cons rfl (.cons rfl (.cons rfl (.cons rfl (.cons rfl (.cons rfl (.cons rfl (.cons rfl (.cons rfl (.cons rfl (.cons rfl (.cons rfl (.cons rfl (.cons rfl (.cons rfl (.cons rfl (.cons rfl (.cons rfl (.cons rfl (.cons rfl (.cons rfl (.cons rfl (.cons rfl (.cons rfl (.cons rfl (.cons rfl (.cons rfl (.cons rfl (.cons rfl (.cons rfl (.cons rfl (.cons rfl (.cons rfl (.cons rfl (.cons rfl (.cons rfl (.cons rfl (.cons rfl (.cons rfl (.cons rfl (.cons rfl (.cons rfl (.cons rfl (.cons rfl (.cons rfl (.cons rfl (.cons rfl (.cons rfl (.cons rfl (.cons rfl (.cons rfl (.cons rfl (.cons rfl (.cons rfl (.cons rfl (.cons rfl (.cons rfl (.cons rfl (.cons rfl (.nil)))))))))))))))))))))))))))))))))))))))))))))))))))))))))))))))))))))))))) (.consE (show row 3 1 Al (m) (cl) (cells fI (((decE ls (es.getD i (0, 0))).set (((es.getD i (0, 0)).1).toNat) (((decE ls (es.getD i (0, 0))).getD (((es.getD i (0, 0)).1).toNat) 0) + 1)).set (((es.getD i (0, 0)).2).toNat) ((((decE ls (es.getD i (0, 0))).set (((es.getD i (0, 0)).1).toNat) (((decE ls (es.getD i (0, 0))).getD (((es.getD i (0, 0)).1).toNat) 0) + 1)).getD (((es.getD i (0, 0)).2).toNat) 0) + 1))) = row 3 1 Al (m) (cl) (cells fI ls) by exact congrArg (fun z => row 3 1 Al (m) (cl) (cells fI z)) (inc_dec (el.symm ▸ hei))) (.head) (.cons (.head) (.cons (.head) (.cons (.head) (.cons (.head) (.cons (.head) (.cons (.head) (.refl)))))))) ?_
        refine cw_region ?_
        refine wl_v (ov_move rfl) rfl rfl rfl ?_
        refine wl_if (OpV.dec (ov_not rfl)) rfl rfl rfl (fun c86 => ?_) (fun c86 => ?_)
        ·
          have hrs := run_stop (L2 := allR (es.drop (i + 1)) ls ch) (show moreB b (allR (es.drop (i + 1)) (decE ls (es.getD i (0, 0))) (ch ++ [es.getD i (0, 0)])) = false by simpa using c86) h_65.1
          refine wl_nil ?_
          refine ce_then ?_
          refine cw_true rfl ?_
          refine cw_seq ?_
          refine cw_region ?_
          refine wl_v (ov_assign rfl) rfl rfl rfl ?_
          refine wl_nil ?_
          refine ce_then ?_
          refine cw_ret ?_
          refine ce_then_ret ?_
          refine ce_results (v := .bool false) (res1 rfl (rv_t rfl)) (fun w' hw => ?_)
          exact ⟨s2_65, A5_65, c5_65, ⟨by rw [hz]; exact hrs.1, by omega⟩, (by rw [hz]; exact congrArg Value.bool hrs.2.symm), ((.cons (.tail (.tail (.tail .head))) (.cons (.head) (.cons (.tail .head) (.cons (.head) (.cons (.head) ((.drop (.drop .refl))))))) : Keep _ _).ss hw)⟩
        ·
          have hb1 : moreB b (allR (es.drop (i + 1)) (decE ls (es.getD i (0, 0))) (ch ++ [es.getD i (0, 0)])) = true := by simpa using c86
          have hl1 := run_lim hJ h_65.1
          refine wl_nil ?_
          refine ce_then ?_
          refine cw_false rfl ?_
          refine cw_skip ?_
          refine ce_then ?_
          refine cw_seq ?_
          refine cw_region ?_
          refine wl_v (ov_load tI107 (Holds.keepF hgw ((.drop (.drop (.drop (.drop (.drop (.drop (.drop .refl))))))))) rfl rfl) rfl rfl rfl ?_
          refine wl_v (ov_move rfl) rfl rfl rfl ?_
          refine wl_v (ov_add (r := ((i + 1 : Nat) : Int)) rfl rfl rfl (by omega)) rfl rfl rfl ?_
          refine wl_r (or_call (fv := []) (vs := [.int .i64 (((i + 1 : Nat) : Int))]) (cs := [elp (some ⟨gf, 0, none⟩) (0), elp (some ⟨gl, 0, none⟩) (0), elp (some ⟨gp, 0, none⟩) (0), elp (some ⟨gn, 0, none⟩) (0), elp (some ⟨gc, 0, none⟩) (0), elp (some ⟨gw, 0, none⟩) (0)]) en118 rfl rfl (call_o (.cons (.tail (.tail (.tail .head))) (.cons (.head) (.cons (.tail .head) (.cons (.head) (.cons (.head) (.cons (.head) (.cons (.head) (.refl)))))))) (fun w hw => sub1_c w _ _ _ (i + 1) gf gp gn gw gl Al m kl cl ls gc A5_65 nc c5_65 ch Af nf cf es Fc cs _ G J lim b s2_65 (Holds.keepF hgf ((.drop (.drop .refl)))) (Holds.keepF hgp ((.drop (.drop .refl)))) (Holds.keepF hgn ((.drop (.drop .refl)))) (Holds.keepF hgw ((.drop (.drop .refl)))) (by first | assumption | omega | (simp; omega)) el (by have := h_65.2; omega) ec (Holds.keepF hAf ((.drop (.drop .refl)))) eAf lAf hen hf hJ (by first | assumption | omega | (simp; omega)) hes hls (by omega) hw))) rfl rfl (kt3p rfl (fun s2_90 A5_90 c5_90 h_90 => ?_))
          refine wl_v (ov_assign rfl) rfl rfl rfl ?_
          refine wl_nil ?_
          refine ce_then ?_
          refine cw_ret ?_
          refine ce_results (v := .bool (moreB b (allR (es.drop (i + 1)) ls ch))) (res1 rfl (rv_t rfl)) (fun w' hw => ?_)
          exact ⟨s2_90, A5_90, c5_90, ⟨by rw [hz]; exact (run_on hb1 h_65.1 h_90.1).1, by omega⟩, (by rw [hz]; exact congrArg Value.bool (run_on hb1 h_65.1 h_90.1).2), ((.cons (.head) (.cons (.head) (.cons (.head) (.cons (.head) (.cons (.head) ((.drop (.drop .refl))))))) : Keep _ _).ss hw)⟩
      ·
        have hz : allR (es.drop i) ls ch = allR (es.drop (i + 1)) ls ch := allR_no (by omega) (fun h => by have := h.2; omega)
        refine wl_v (ov_pick_t rfl rfl) rfl rfl rfl ?_
        refine wl_nil ?_
        refine ce_then ?_
        refine cw_false rfl ?_
        refine cw_skip ?_
        refine ce_then ?_
        refine cw_seq ?_
        refine cw_region ?_
        refine wl_v (ov_load tI107 (Holds.keepF hgw ((.drop (.drop (.drop (.drop (.drop (.drop .refl)))))))) rfl rfl) rfl rfl rfl ?_
        refine wl_v (ov_move rfl) rfl rfl rfl ?_
        refine wl_v (ov_add (r := ((i + 1 : Nat) : Int)) rfl rfl rfl (by omega)) rfl rfl rfl ?_
        refine wl_r (or_call (fv := []) (vs := [.int .i64 (((i + 1 : Nat) : Int))]) (cs := [elp (some ⟨gf, 0, none⟩) (0), elp (some ⟨gl, 0, none⟩) (0), elp (some ⟨gp, 0, none⟩) (0), elp (some ⟨gn, 0, none⟩) (0), elp (some ⟨gc, 0, none⟩) (0), elp (some ⟨gw, 0, none⟩) (0)]) en118 rfl rfl (call_o (.cons (.tail .head) (.cons (.tail .head) (.cons (.tail .head) (.cons (.tail .head) (.cons (.tail .head) (.cons (.head) (.refl))))))) (fun w hw => sub1_c w _ _ _ (i + 1) gf gp gn gw gl Al m kl cl ls gc Ac nc cc ch Af nf cf es Fc cs _ G J lim b s (Holds.keepF hgf ((.drop .refl))) (Holds.keepF hgp ((.drop .refl))) (Holds.keepF hgn ((.drop .refl))) (Holds.keepF hgw ((.drop .refl))) (by first | assumption | omega | (simp; omega)) el lc ec (Holds.keepF hAf ((.drop .refl))) eAf lAf hen hf hJ (by first | assumption | omega | (simp; omega)) hes hls (by rw [hz] at hlim; exact hlim) hw))) rfl rfl (kt3p rfl (fun s2_90 A5_90 c5_90 h_90 => ?_))
        refine wl_v (ov_assign rfl) rfl rfl rfl ?_
        refine wl_nil ?_
        refine ce_then ?_
        refine cw_ret ?_
        refine ce_results (v := .bool (moreB b (allR (es.drop (i + 1)) ls ch))) (res1 rfl (rv_t rfl)) (fun w' hw => ?_)
        exact ⟨s2_90, A5_90, c5_90, ⟨by rw [hz]; exact h_90.1, by omega⟩, (by rw [hz]), ((.cons (.head) (.cons (.head) (.cons (.head) (.cons (.head) (.cons (.head) ((.drop .refl)))))) : Keep _ _).ss hw)⟩
    ·
      have hz : allR (es.drop i) ls ch = allR (es.drop (i + 1)) ls ch := allR_no (by omega) (fun h => by have := h.1; omega)
      refine wl_v (ov_move rfl) rfl rfl rfl ?_
      refine wl_not rfl rfl rfl rfl rfl rfl ?_
      refine wl_not rfl rfl rfl rfl rfl rfl ?_
      refine wl_not rfl rfl rfl rfl rfl rfl ?_
      refine wl_not rfl rfl rfl rfl rfl rfl ?_
      refine wl_not rfl rfl rfl rfl rfl rfl ?_
      refine wl_not rfl rfl rfl rfl rfl rfl ?_
      refine wl_v (ov_pick_f rfl rfl) rfl rfl rfl ?_
      refine wl_nil ?_
      refine ce_then ?_
      refine cw_false rfl ?_
      refine cw_skip ?_
      refine ce_then ?_
      refine cw_seq ?_
      refine cw_region ?_
      refine wl_v (ov_load tI107 (Holds.keepF hgw ((.drop (.drop (.drop (.drop (.drop (.drop .refl)))))))) rfl rfl) rfl rfl rfl ?_
      refine wl_v (ov_move rfl) rfl rfl rfl ?_
      refine wl_v (ov_add (r := ((i + 1 : Nat) : Int)) rfl rfl rfl (by omega)) rfl rfl rfl ?_
      refine wl_r (or_call (fv := []) (vs := [.int .i64 (((i + 1 : Nat) : Int))]) (cs := [elp (some ⟨gf, 0, none⟩) (0), elp (some ⟨gl, 0, none⟩) (0), elp (some ⟨gp, 0, none⟩) (0), elp (some ⟨gn, 0, none⟩) (0), elp (some ⟨gc, 0, none⟩) (0), elp (some ⟨gw, 0, none⟩) (0)]) en118 rfl rfl (call_o (.cons (.tail .head) (.cons (.tail .head) (.cons (.tail .head) (.cons (.tail .head) (.cons (.tail .head) (.cons (.head) (.refl))))))) (fun w hw => sub1_c w _ _ _ (i + 1) gf gp gn gw gl Al m kl cl ls gc Ac nc cc ch Af nf cf es Fc cs _ G J lim b s (Holds.keepF hgf ((.drop .refl))) (Holds.keepF hgp ((.drop .refl))) (Holds.keepF hgn ((.drop .refl))) (Holds.keepF hgw ((.drop .refl))) (by first | assumption | omega | (simp; omega)) el lc ec (Holds.keepF hAf ((.drop .refl))) eAf lAf hen hf hJ (by first | assumption | omega | (simp; omega)) hes hls (by rw [hz] at hlim; exact hlim) hw))) rfl rfl (kt3p rfl (fun s2_90 A5_90 c5_90 h_90 => ?_))
      refine wl_v (ov_assign rfl) rfl rfl rfl ?_
      refine wl_nil ?_
      refine ce_then ?_
      refine cw_ret ?_
      refine ce_results (v := .bool (moreB b (allR (es.drop (i + 1)) ls ch))) (res1 rfl (rv_t rfl)) (fun w' hw => ?_)
      exact ⟨s2_90, A5_90, c5_90, ⟨by rw [hz]; exact h_90.1, by omega⟩, (by rw [hz]), ((.cons (.head) (.cons (.head) (.cons (.head) (.cons (.head) (.cons (.head) ((.drop .refl)))))) : Keep _ _).ss hw)⟩
termination_by es.length - i
decreasing_by all_goals omega
set_option maxRecDepth 100000 in
theorem sub_c (w w0 : World) (Bd : Nat) (F : List Ent) (m : Nat) (Af : Option Addr) (nf : Nat) (cf : Nat) (es : List (Int × Int)) (A : Option Addr) (n : Nat) (c : Nat) (ls : List (Int)) (Fc : FuncId) (cs : List Value) (σ : Type) (G : σ → Ent) (J : σ → List Ed → σ → Prop) (lim : σ → Nat) (b : Bool) (s : σ) (hAf : Holds (SS w0 Bd F) Af (cells fE es)) (eAf : es.length = nf) (lAf : nf ≤ cf) (hA : Holds (SS w0 Bd F) A (cells fI ls)) (eA : ls.length = n) (lA : n ≤ c) (hen : Enters Try.prog Fc) (hf : ∀ (s : σ) (F' : List Ent) (A : Option Addr) (k c : Nat) (xs : List Ed) w', lim s < 4000000 → xs.length = k → SS w0 Bd ((row 43 2 A (k) (c) (cells fE xs)) :: G s :: F') w' → Calls Try.prog Fc ([] ++ [Value.agg #[.int .i64 ((m : Nat) : Int), .slice A k k]] ++ cs).toArray w' (Ret fun v w'' => ∃ s', J s xs s' ∧ v = .bool b ∧ SS w0 Bd (G s' :: F') w'')) (hJ : ∀ s x s', J s x s' → lim s' ≤ lim s + 1) (hi : es.length ≤ 21 ∧ m ≤ 7 ∧ ls.length = m) (hes : ∀ e ∈ es, OkE m e) (hls : ∀ x ∈ ls, 0 ≤ x ∧ x ≤ 1000) (hlim : lim s + (allR es ls []).length ≤ 4000000) (hss : SS w0 Bd ((G s) :: F) w) : Calls Try.prog 65 #[.int .i64 (((m : Nat) : Int)), .slice Af (nf) (cf), .slice A (n) (c), .func (.func Fc) #[] cs.toArray] w (Ret fun rv w' => ∃ s2, (runP b J s (allR es ls []) s2) ∧ rv = .tuple #[] ∧ SS w0 Bd ((G s2) :: F) w') := by
  subst eAf
  subst eA
  obtain rfl : ls.length = m := hi.2.2
  refine fn_enter (args := [.int .i64 (((ls.length : Nat) : Int)), .slice Af (es.length) (cf), .slice A (ls.length) (c), .func (.func Fc) #[] cs.toArray]) Try.func65 rfl Try.ntmps65 rfl hss ?_
  refine cw_seq ?_
  refine cw_region ?_
  refine wl_r (or_box rfl rfl) rfl rfl (kt1 rfl (fun g4 => ?_))
  refine wl_r (or_box rfl rfl) rfl rfl (kt1 rfl (fun g5 => ?_))
  refine wl_r (or_box rfl rfl) rfl rfl (kt1 rfl (fun g7 => ?_))
  refine wl_nil ?_
  refine ce_then ?_
  refine cw_seq ?_
  refine cw_region ?_
  refine wl_v (ov_move rfl) rfl rfl rfl ?_
  refine wl_r (or_call (fv := []) (vs := [.slice A (ls.length) (c)]) (cs := []) en117 rfl rfl (call_x2 (fun w hw => cloneC_c w A ls.length c ls ((Holds.keepF hA ((.drop (.drop (.drop (.drop .refl)))))) w hw) rfl lA (by omega)))) rfl rfl (kt2p rfl (fun A2_12 c2_12 h_12 => ?_))
  refine wl_r (or_alloc tI31 rfl) rfl rfl (kt1 rfl (fun g8 => ?_))
  refine wl_r0 (or_store_blk (vs := [.slice A2_12 (ls.length) (ls.length)]) (cs' := [.slice A2_12 (ls.length) (ls.length)]) (.head) tI31 rfl rfl rfl rfl (Nat.le_of_ble_eq_true rfl) rfl) rfl rfl (kn0 ?_)
  refine wl_nil ?_
  refine ce_then ?_
  refine cw_seq ?_
  refine cw_region ?_
  refine wl_r (or_alloc tI23 rfl) rfl rfl (kt1 rfl (fun g9 => ?_))
  refine wl_nil ?_
  refine ce_then ?_
  refine cw_seq ?_
  refine cw_region ?_
  refine wl_r (or_alloc tI107 rfl) rfl rfl (kt1 rfl (fun g10 => ?_))
  refine wl_nil ?_
  refine ce_then ?_
  refine cw_seq ?_
  refine ct_none fE 43 2 ?_
  refine cw_region ?_
  refine wl_v (ov_makeFunc (vs := #[elp (some ⟨g5, 0, none⟩) (0), elp (some ⟨g8, 0, none⟩) (0), elp (some ⟨g7, 0, none⟩) (0), elp (some ⟨g4, 0, none⟩) (0), elp (some ⟨g9, 0, none⟩) (0), elp (some ⟨g10, 0, none⟩) (0)]) rfl) rfl rfl rfl ?_
  refine wl_r0 (or_store_blk (vs := [.func (.func 118) #[] #[elp (some ⟨g5, 0, none⟩) (0), elp (some ⟨g8, 0, none⟩) (0), elp (some ⟨g7, 0, none⟩) (0), elp (some ⟨g4, 0, none⟩) (0), elp (some ⟨g9, 0, none⟩) (0), elp (some ⟨g10, 0, none⟩) (0)]]) (cs' := [.func (.func 118) #[] #[elp (some ⟨g5, 0, none⟩) (0), elp (some ⟨g8, 0, none⟩) (0), elp (some ⟨g7, 0, none⟩) (0), elp (some ⟨g4, 0, none⟩) (0), elp (some ⟨g9, 0, none⟩) (0), elp (some ⟨g10, 0, none⟩) (0)]]) (.tail .head) tI107 rfl rfl rfl rfl (Nat.le_of_ble_eq_true rfl) rfl) rfl rfl (kn0 ?_)
  refine wl_nil ?_
  refine ce_then ?_
  refine cw_region ?_
  refine wl_v (ov_load tI107 (holds_blk (List.Mem.head _)) rfl rfl) rfl rfl rfl ?_
  refine wl_r (or_call (fv := []) (vs := [.int .i64 (0)]) (cs := [elp (some ⟨g5, 0, none⟩) (0), elp (some ⟨g8, 0, none⟩) (0), elp (some ⟨g7, 0, none⟩) (0), elp (some ⟨g4, 0, none⟩) (0), elp (some ⟨g9, 0, none⟩) (0), elp (some ⟨g10, 0, none⟩) (0)]) en118 rfl rfl (call_o (.cons (.tail (.tail (.tail .head))) (.cons (.tail (.tail (.tail .head))) (.cons (.tail (.tail .head)) (.cons (.tail .head) (.cons (.tail (.tail (.tail (.tail .head)))) (.cons (.head) (.cons (.head) (.cons (.head) (.cons (.head) (.refl)))))))))) (fun w hw => sub1_c w _ _ _ 0 g5 g7 g4 g10 g8 A2_12 ls.length ls.length c2_12 ls g9 none 0 0 ([]) Af es.length cf es Fc cs _ G J lim b s (holds_blk (List.Mem.tail _ (List.Mem.tail _ (List.Mem.head _)))) (holds_blk (List.Mem.tail _ (List.Mem.head _))) (holds_blk (List.Mem.tail _ (List.Mem.tail _ (List.Mem.tail _ (List.Mem.head _))))) (holds_blk (List.Mem.head _)) (by first | assumption | omega | (simp; omega)) hi.2.2 (Nat.le_refl _) rfl (Holds.keepF hAf ((.drop (.drop (.drop (.drop .refl)))))) (by first | rfl | assumption | (simp; done) | (simp; omega)) lAf hen hf hJ (by first | assumption | omega | (simp; omega)) hes hls hlim hw))) rfl rfl (kt3p rfl (fun s2_15 A5_15 c5_15 h_15 => ?_))
  refine wl_nil ?_
  refine ce_results_n (v := .tuple #[]) (res0 rfl) (fun w' hw => ?_)
  exact ⟨s2_15, h_15.1, rfl, ((.cons (.tail (.tail (.tail (.tail .head)))) ((.drop (.drop (.drop (.drop (.drop (.drop (.drop (.drop .refl))))))))) : Keep _ _).ss hw)⟩
set_option maxRecDepth 100000 in
theorem listed_c (w : World) (A : Option Addr) (n : Nat) (c : Nat) (xs : List (Int)) (q : Int) (hA : At w A (cells fI xs)) (eA : xs.length = n) (lA : n ≤ c) (hs : xs.length ≤ 1048576) : Calls Try.prog 64 #[.slice A (n) (c), .int .i64 (q)] w (Ret fun rv w' => rv = .bool (decide (Valid xs ∧ (xs.length : Int) ≤ q)) ∧ New w w' []) := by
  have oA := hA.atB
  subst eA
  refine fn_enter (args := [.slice A (xs.length) (c), .int .i64 (q)]) Try.func64 rfl Try.ntmps64 rfl (SS.start w) ?_
  refine cw_seq ?_
  refine cw_region ?_
  refine wl_v (ov_assign rfl) rfl rfl rfl ?_
  refine wl_nil ?_
  refine ce_then ?_
  refine cw_seq ?_
  refine cw_region ?_
  refine wl_v (ov_move rfl) rfl rfl rfl ?_
  refine wl_r (or_call (fv := []) (vs := [.slice A (xs.length) (c)]) (cs := []) en21 rfl rfl (call_v (fun w hw => validI_c w A xs.length c xs ((holds_old oA) w hw) rfl lA (by first | assumption | omega | (simp; omega))))) rfl rfl (kt_if rfl (fun c6 => ?_) (fun c6 => ?_))
  ·
    refine wl_v (ov_move rfl) rfl rfl rfl ?_
    refine wl_go rfl rfl ?_
    refine wl_v (ov_move rfl) rfl rfl rfl ?_
    refine wl_go rfl rfl ?_
    refine wl_v (ov_len (sliceI_spec sI31) rfl) rfl rfl rfl ?_
    refine wl_go rfl rfl ?_
    refine wl_v (ov_move rfl) rfl rfl rfl ?_
    refine wl_go rfl rfl ?_
    refine wl_if (ov_leq rfl rfl) rfl rfl rfl (fun c11 => ?_) (fun c11 => ?_)
    ·
      refine wl_v (ov_pick_t rfl rfl) rfl rfl rfl ?_
      refine wl_v (ov_assign rfl) rfl rfl rfl ?_
      refine wl_nil ?_
      refine ce_then ?_
      refine cw_ret ?_
      refine ce_results (v := .bool true) (res1 rfl (rv_t rfl)) (fun w' hw => ?_)
      exact ⟨(bt ⟨c6, by omega⟩), (Keep.nil.ss hw).to_new⟩
    ·
      refine wl_v (ov_pick_t rfl rfl) rfl rfl rfl ?_
      refine wl_v (ov_assign rfl) rfl rfl rfl ?_
      refine wl_nil ?_
      refine ce_then ?_
      refine cw_ret ?_
      refine ce_results (v := .bool false) (res1 rfl (rv_t rfl)) (fun w' hw => ?_)
      exact ⟨(bf (fun h => c11 (by have := h.2; omega))), (Keep.nil.ss hw).to_new⟩
  ·
    refine wl_v (ov_move rfl) rfl rfl rfl ?_
    refine wl_not rfl rfl rfl rfl rfl rfl ?_
    refine wl_not rfl rfl rfl rfl rfl rfl ?_
    refine wl_not rfl rfl rfl rfl rfl rfl ?_
    refine wl_not rfl rfl rfl rfl rfl rfl ?_
    refine wl_v (ov_pick_f rfl rfl) rfl rfl rfl ?_
    refine wl_v (ov_assign rfl) rfl rfl rfl ?_
    refine wl_nil ?_
    refine ce_then ?_
    refine cw_ret ?_
    refine ce_results (v := .bool false) (res1 rfl (rv_t rfl)) (fun w' hw => ?_)
    exact ⟨(bf (fun h => c6 h.1)), (Keep.nil.ss hw).to_new⟩
set_option maxRecDepth 100000 in
theorem pairsI_c (w : World) (n : Nat) (hn : n ≤ 10) : Calls Try.prog 66 #[.int .i64 (((n : Nat) : Int))] w (Ret fun rv w' => ∃ A2 c2, ((prs n).length ≤ c2) ∧ rv = .slice A2 ((prs n).length) (c2) ∧ New w w' [row 43 2 A2 ((prs n).length) (c2) (cells fE (prs n))]) := by
  refine fn_enter (args := [.int .i64 (((n : Nat) : Int))]) Try.func66 rfl Try.ntmps66 rfl (SS.start w) ?_
  refine cw_seq ?_
  refine cw_region ?_
  refine wl_v (ov_assign rfl) rfl rfl rfl ?_
  refine wl_nil ?_
  refine ce_then ?_
  refine cw_seq ?_
  refine cw_region ?_
  refine wl_v (ov_assign rfl) rfl rfl rfl ?_
  refine wl_nil ?_
  refine ce_then ?_
  refine cw_seq ?_
  refine cw_seq ?_
  refine ct_none fE 43 2 ?_
  refine cw_region ?_
  refine wl_v (ov_move rfl) rfl rfl rfl ?_
  refine wl_v (ov_move rfl) rfl rfl rfl ?_
  refine wl_nil ?_
  refine ce_then ?_
  refine cw_block ?_
  refine cw_loop3 (fun (a : Nat) (A2 : Option Addr) (c2 : Nat) => [(0, .int .i64 (((n : Nat) : Int))), (2, .slice none (0) (0)), (6, .int .i64 (((n : Nat) : Int))), (3, .slice A2 ((prsTo n a).length) (c2)), (7, .int .i64 (((a : Nat) : Int)))]) (fun (a : Nat) (A2 : Option Addr) (c2 : Nat) => [row 43 2 A2 ((prsTo n a).length) (c2) (cells fE (prsTo n a))]) (fun (a : Nat) (A2 : Option Addr) (c2 : Nat) => a ≤ n ∧ (prsTo n a).length ≤ c2) (fun (a : Nat) (A2 : Option Addr) (c2 : Nat) => n - a) 0 none 0 ⟨by omega, Nat.le_refl _⟩ (.cons rfl (.cons rfl (.cons rfl (.cons (congrArg (fun z => some (Value.slice none z 0)) (show 0 = ((prsTo n 0).length) from rfl)) (.cons (congrArg (fun z => some (Value.int .i64 z)) (show 0 = ((0 : Nat) : Int) by first | omega | rfl | (simp; done))) (.nil)))))) (.consE (show row 43 2 none (0) (0) (cells fE ([])) = row 43 2 none ((prsTo n 0).length) (0) (cells fE (prsTo n 0)) by rfl) (.head) (.nil)) ?_
  intro R0 a A2 c2 hk hR0
  obtain ⟨hk1, hk2⟩ := hk
  have hpl := prsTo_len n hn a hk1
  refine cw_seq ?_
  refine cw_region ?_
  refine wl_if (ov_lss rfl rfl) rfl rfl rfl (fun c8 => ?_) (fun c8 => ?_)
  ·
    refine wl_nil ?_
    refine ce_then ?_
    refine cw_seq ?_
    refine cw_true rfl ?_
    refine cw_skip ?_
    refine ce_then ?_
    refine cw_seq ?_
    refine cw_block ?_
    refine cw_seq ?_
    refine cw_region ?_
    refine wl_v (ov_move rfl) rfl rfl rfl ?_
    refine wl_v (ov_assign rfl) rfl rfl rfl ?_
    refine wl_nil ?_
    refine ce_then ?_
    refine cw_seq ?_
    refine cw_region ?_
    refine wl_v (ov_move rfl) rfl rfl rfl ?_
    refine wl_v (ov_add (r := ((a + 1 : Nat) : Int)) rfl rfl rfl (by omega)) rfl rfl rfl ?_
    refine wl_v (ov_assign rfl) rfl rfl rfl ?_
    refine wl_nil ?_
    refine ce_then ?_
    refine cw_block ?_
    refine cw_loop3 (fun (k : Nat) (A3 : Option Addr) (c3 : Nat) => [(0, .int .i64 (((n : Nat) : Int))), (2, .slice none (0) (0)), (4, .int .i64 (((a : Nat) : Int))), (6, .int .i64 (((n : Nat) : Int))), (7, .int .i64 (((a : Nat) : Int))), (3, .slice A3 ((prsTo n a ++ prow a k).length) (c3)), (5, .int .i64 (((a + 1 + k : Nat) : Int)))]) (fun (k : Nat) (A3 : Option Addr) (c3 : Nat) => [row 43 2 A3 ((prsTo n a ++ prow a k).length) (c3) (cells fE (prsTo n a ++ prow a k))]) (fun (k : Nat) (A3 : Option Addr) (c3 : Nat) => k ≤ n - (a + 1) ∧ (prsTo n a ++ prow a k).length ≤ c3) (fun (k : Nat) (A3 : Option Addr) (c3 : Nat) => n - (a + 1) - k) 0 A2 c2 ⟨by omega, by simpa [prow] using hk2⟩ (.cons rfl (.cons rfl (.cons rfl (.cons rfl (.cons rfl (.cons (congrArg (fun z => some (Value.slice A2 z c2)) (show ((prsTo n a).length) = ((prsTo n a ++ prow a 0).length) from (by simp [prow]))) (.cons (congrArg (fun z => some (Value.int .i64 z)) (show ((a + 1 : Nat) : Int) = ((a + 1 + 0 : Nat) : Int) by first | omega | rfl | (simp; done))) (.nil)))))))) (.consE (show row 43 2 A2 ((prsTo n a).length) (c2) (cells fE (prsTo n a)) = row 43 2 A2 ((prsTo n a ++ prow a 0).length) (c2) (cells fE (prsTo n a ++ prow a 0)) by simp [prow]) (.head) (.nil)) ?_
    intro R1 k A3 c3 hk1 hR1
    obtain ⟨hj1, hj2⟩ := hk1
    have hal : (prsTo n a ++ prow a k).length = (prsTo n a).length + k := by rw [List.length_append, prow_length]
    refine cw_seq ?_
    refine cw_seq ?_
    refine cw_region ?_
    refine wl_v (ov_move rfl) rfl rfl rfl ?_
    refine wl_v (ov_move rfl) rfl rfl rfl ?_
    refine wl_if (ov_lss rfl rfl) rfl rfl rfl (fun c14 => ?_) (fun c14 => ?_)
    ·
      refine wl_nil ?_
      refine ce_then ?_
      refine cw_true rfl ?_
      refine cw_skip ?_
      refine ce_then ?_
      refine cw_seq ?_
      refine cw_block ?_
      refine cw_region ?_
      refine wl_v (ov_move rfl) rfl rfl rfl ?_
      refine wl_v (ov_move rfl) rfl rfl rfl ?_
      refine wl_v (ov_move rfl) rfl rfl rfl ?_
      refine wl_v (ov_build (is := [0, 1]) (vs := [.int .i64 (((a : Nat) : Int)), .int .i64 (((a + 1 + k : Nat) : Int))]) (v := .agg #[.int .i64 (((a : Nat) : Int)), .int .i64 (((a + 1 + k : Nat) : Int))]) rfl rfl (fun _ => by kernel_rfl)) rfl rfl rfl ?_
      refine wl_r (or_buildSlice (e := 43) (size := 2) (is := [0]) (vs := [.agg #[.int .i64 (((a : Nat) : Int)), .int .i64 (((a + 1 + k : Nat) : Int))]]) (cs := cells fE ([(((a : Nat) : Int), ((a + 1 + k : Nat) : Int))])) rfl rfl rfl (by decide) (fun _ => by kernel_rfl)) rfl rfl (kt1 rfl (fun g21 => ?_))
      refine wl_r (or_append (c2 := 1) sI23 tI43 rfl (by decide) rfl rfl (.tail .head) (holds_row (List.Mem.head _)) (by rw [cells_length fE_len]; try simp) (one_cells fE_one _) cells_append (by omega) (by omega)) rfl rfl (kt2p rfl (fun A22 c22 h22 => ?_))
      refine wl_v (ov_assign rfl) rfl rfl rfl ?_
      refine wl_nil ?_
      refine ce_block ?_
      refine ce_then ?_
      refine cw_region ?_
      refine wl_v (ov_move rfl) rfl rfl rfl ?_
      refine wl_v (ov_add (r := (((a + 1 + k) + 1 : Nat) : Int)) rfl rfl rfl (by omega)) rfl rfl rfl ?_
      refine wl_v (ov_assign rfl) rfl rfl rfl ?_
      refine wl_nil ?_
      exact fun ac_ w_ hs_ => hR1 (k + 1) A22 c22 ⟨by omega, by rw [prow_succ, ← List.append_assoc, List.length_append]; exact h22⟩ (by omega) ac_ w_ (hs_.weaken (.cons rfl (.cons rfl (.cons rfl (.cons rfl (.cons rfl (.cons (congrArg (fun z => some (Value.slice A22 z c22)) (show (((prsTo n a ++ prow a k).length) + 1) = ((prsTo n a ++ prow a (k + 1)).length) from (by rw [prow_succ, ← List.append_assoc]; simp [Nat.add_assoc]))) (.cons rfl (.nil)))))))) (.consE (show row 43 2 A22 (((prsTo n a ++ prow a k).length) + 1) (c22) (cells fE ((prsTo n a ++ prow a k) ++ ([(((a : Nat) : Int), ((a + 1 + k : Nat) : Int))]))) = row 43 2 A22 ((prsTo n a ++ prow a (k + 1)).length) (c22) (cells fE (prsTo n a ++ prow a (k + 1))) by rw [prow_succ, ← List.append_assoc]; exact row_eq (by simp [Nat.add_assoc]) rfl) (.head) (.nil)))
    ·
      refine wl_nil ?_
      refine ce_then ?_
      refine cw_false rfl ?_
      refine cw_exit ?_
      refine ce_then_exit ?_
      refine ce_then_exit ?_
      refine ce_hit ?_
      refine ce_block ?_
      refine ce_then ?_
      refine cw_region ?_
      refine wl_v (ov_add (r := ((a + 1 : Nat) : Int)) rfl rfl rfl (by omega)) rfl rfl rfl ?_
      refine wl_v (ov_move rfl) rfl rfl rfl ?_
      refine wl_nil ?_
      exact fun ac_ w_ hs_ => hR0 (a + 1) A3 c3 ⟨by omega, by rw [prsTo_succ, show n - (a + 1) = k from by omega]; exact hj2⟩ (by omega) ac_ w_ (hs_.weaken (.cons rfl (.cons rfl (.cons rfl (.cons (congrArg (fun z => some (Value.slice A3 z c3)) (show ((prsTo n a ++ prow a k).length) = ((prsTo n (a + 1)).length) from (by rw [prsTo_succ, show n - (a + 1) = k from by omega]))) (.cons rfl (.nil)))))) (.consE (show row 43 2 A3 ((prsTo n a ++ prow a k).length) (c3) (cells fE (prsTo n a ++ prow a k)) = row 43 2 A3 ((prsTo n (a + 1)).length) (c3) (cells fE (prsTo n (a + 1))) by rw [prsTo_succ, show n - (a + 1) = k from by omega]) (.head) (.nil)))
  ·
    refine wl_nil ?_
    refine ce_then ?_
    refine cw_seq ?_
    refine cw_false rfl ?_
    refine cw_exit ?_
    refine ce_then_exit ?_
    refine ce_then_exit ?_
    refine ce_hit ?_
    refine ce_then ?_
    refine cw_seq ?_
    refine cw_region ?_
    refine wl_v (ov_move rfl) rfl rfl rfl ?_
    refine wl_v (ov_assign rfl) rfl rfl rfl ?_
    refine wl_nil ?_
    refine ce_then ?_
    refine cw_ret ?_
    refine ce_results (v := .slice A2 ((prsTo n a).length) (c2)) (res1 rfl (rv_t rfl)) (fun w' hw => ?_)
    exact ⟨A2, c2, (by rw [prs, show prsTo n n = prsTo n a from by rw [show n = a from by omega]]; exact hk2), (by rw [prs, show prsTo n n = prsTo n a from by rw [show n = a from by omega]]), ((.consE (show row 43 2 A2 ((prsTo n a).length) (c2) (cells fE (prsTo n a)) = row 43 2 A2 ((prs n).length) (c2) (cells fE (prs n)) by rw [prs, show prsTo n n = prsTo n a from by rw [show n = a from by omega]]) (.head) (.nil) : Keep _ _).ss hw).to_new⟩
set_option maxRecDepth 100000 in
theorem clipG_c (w : World) (A : Option Addr) (n : Nat) (c : Nat) (gs : List (Int × Option Addr × Nat × Nat)) (hA : At w A (cells fG gs)) (eA : gs.length = n) (lA : n ≤ c) : Calls Try.prog 68 #[.slice A (n) (c)] w (Ret fun rv w' => rv = .slice A (n) (n) ∧ New w w' []) := by
  have oA := hA.atB
  subst eA
  refine fn_enter (args := [.slice A (gs.length) (c)]) Try.func68 rfl Try.ntmps68 rfl (SS.start w) ?_
  refine cw_seq ?_
  refine cw_region ?_
  refine wl_v (ov_assign rfl) rfl rfl rfl ?_
  refine wl_nil ?_
  refine ce_then ?_
  refine cw_seq ?_
  refine cw_region ?_
  refine wl_v (ov_move rfl) rfl rfl rfl ?_
  refine wl_v (ov_move rfl) rfl rfl rfl ?_
  refine wl_v (ov_len (sliceI_spec sI38) rfl) rfl rfl rfl ?_
  refine wl_v (ov_move rfl) rfl rfl rfl ?_
  refine wl_v (ov_len (sliceI_spec sI38) rfl) rfl rfl rfl ?_
  refine wl_v (ov_slice_hm (h := gs.length) (mx := gs.length) sI38 tI25 rfl rfl rfl (Nat.le_refl _) lA) rfl rfl rfl ?_
  refine wl_v (ov_assign rfl) rfl rfl rfl ?_
  refine wl_nil ?_
  refine ce_then ?_
  refine cw_ret ?_
  refine ce_results (v := .slice A (gs.length) (gs.length)) (res1 rfl (rv_t rfl)) (fun w' hw => ?_)
  exact ⟨rfl, (Keep.nil.ss hw).to_new⟩
set_option maxRecDepth 100000 in
theorem all1_c (w w0 : World) (Bd : Nat) (F : List Ent) (A : Option Addr) (k : Nat) (c : Nat) (xs : List Ed) (go : Nat) (Ao : Option Addr) (no : Nat) (co : Nat) (m : Nat) (hs : List Hd) (xss : List (List Ed)) (lo : no ≤ co) (ex : xs.length = k) (hn : no ≤ 4000000) (hss : SS w0 Bd ((row 43 2 A (k) (c) (cells fE xs)) :: (blk go [.slice Ao (no) (co)] 38) :: (row 25 2 Ao (no) (co) (cells fG (gsOf m hs))) :: (nest 43 2 fE hs xss) :: F) w) : Calls Try.prog 67 #[.agg #[.int .i64 (((m : Nat) : Int)), .slice A (k) (k)], elp (some ⟨go, 0, none⟩) (0)] w (Ret fun rv w' => ∃ A4 c4, (no + 1 ≤ c4) ∧ rv = .bool true ∧ SS w0 Bd ((blk go [.slice A4 (no + 1) (c4)] 38) :: (row 25 2 A4 (no + 1) (c4) (cells fG (gsOf m (hs ++ [(A, k, k)])))) :: (nest 43 2 fE (hs ++ [(A, k, k)]) (xss ++ [xs])) :: F) w') := by
  refine fn_enter (args := [.agg #[.int .i64 (((m : Nat) : Int)), .slice A (k) (k)], elp (some ⟨go, 0, none⟩) (0)]) Try.func67 rfl Try.ntmps67 rfl hss ?_
  refine cw_seq ?_
  refine cw_region ?_
  refine wl_r (or_box rfl rfl) rfl rfl (kt1 rfl (fun g2 => ?_))
  refine wl_v (ov_assign rfl) rfl rfl rfl ?_
  refine wl_nil ?_
  refine ce_then ?_
  refine cw_seq ?_
  refine cw_region ?_
  refine wl_v (ov_load tI38 (holds_blk (List.Mem.tail _ (List.Mem.tail _ (List.Mem.head _)))) rfl rfl) rfl rfl rfl ?_
  refine wl_v (ov_loadAgg (vs := [.int .i64 (((m : Nat) : Int)), .slice A (k) (k)]) tI25 (holds_blk (List.Mem.head _)) rfl some_lit rfl rfl) rfl rfl rfl ?_
  refine wl_r (or_buildSlice (e := 25) (size := 2) (is := [0]) (vs := [.agg #[.int .i64 (((m : Nat) : Int)), .slice A (k) (k)]]) (cs := cells fG ([(((m : Nat) : Int), A, k, k)])) rfl rfl rfl (by decide) (fun _ => by kernel_rfl)) rfl rfl (kt1 rfl (fun g6 => ?_))
  refine wl_r (or_append (c2 := 1) sI38 tI25 rfl (by decide) rfl rfl (.tail (.tail (.tail (.tail .head)))) (holds_row (List.Mem.head _)) ((by rw [cells_length fG_len]; rfl)) (one_cells fG_one _) cells_append (by omega) (by omega)) rfl rfl (kt2p rfl (fun A7 c7 h7 => ?_))
  refine wl_r0 (or_store_blk (vs := [.slice A7 (no + 1) (c7)]) (cs' := [.slice A7 (no + 1) (c7)]) (.tail (.tail (.tail (.tail .head)))) tI38 rfl rfl rfl rfl (Nat.le_of_ble_eq_true rfl) rfl) rfl rfl (kn0 ?_)
  refine wl_nil ?_
  refine ce_then ?_
  refine cw_seq ?_
  refine ct_push (k := k) (.cons (.tail (.tail (.tail (.tail (.tail .head))))) (.cons (.tail (.tail (.tail (.tail .head)))) (.cons (.head) (.cons (.head) (.cons (.head) (.cons (.head) (.refl))))))) (ex) (Nat.le_refl _) ?_
  refine cw_region ?_
  refine wl_v (ov_assign rfl) rfl rfl rfl ?_
  refine wl_nil ?_
  refine ce_then ?_
  refine cw_ret ?_
  refine ce_results (v := .bool true) (res1 rfl (rv_t rfl)) (fun w' hw => ?_)
  exact ⟨A7, c7, h7, rfl, ((.cons (.tail .head) (.consE (show row 25 2 A7 (no + 1) (c7) (cells fG ((gsOf m hs) ++ ([(((m : Nat) : Int), A, k, k)]))) = row 25 2 A7 (no + 1) (c7) (cells fG (gsOf m (hs ++ [(A, k, k)]))) by rw [gsOf_app]; rfl) (.tail .head) (.cons (.head) ((.drop (.drop .refl))))) : Keep _ _).ss hw)⟩
set_option maxRecDepth 100000 in
theorem all1h (w' w0 : World) (Bd : Nat) (F' : List Ent) (m go : Nat) (s : AllS) (A : Option Addr) (k c : Nat) (xs : List Ed) (hl : s.2.2.2.length < 4000000) (hx : xs.length = k) (hw : SS w0 Bd ((row 43 2 A (k) (c) (cells fE xs)) :: allG 38 25 43 go m s :: F') w') : Calls Try.prog 67 ([] ++ [Value.agg #[.int .i64 ((m : Nat) : Int), .slice A k k]] ++ [elp (some ⟨go, 0, none⟩) 0]).toArray w' (Ret fun v w'' => ∃ s', allJ s xs s' ∧ v = .bool true ∧ SS w0 Bd (allG 38 25 43 go m s' :: F') w'') := by
  obtain ⟨Ao, co, hs, xss⟩ := s
  have h2 : SS w0 Bd (allG 38 25 43 go m (Ao, co, hs, xss) :: (row 43 2 A (k) (c) (cells fE xs)) :: F') w' := (Keep.cons (.tail .head) (.cons .head .refl)).ss hw
  have h3 := ss_unbun3 h2
  have h4 := (Keep.cons (.tail (.tail (.tail .head))) (.cons .head (.cons .head (.cons .head .refl))) : Keep _ _).ss h3
  have hroom : xss.length ≤ co := row_room (h4.hp.mem _ (.tail _ (.tail _ (.head _))))
  refine (all1_c w' w0 Bd F' A k c xs go Ao xss.length co m hs xss hroom hx (Nat.le_of_lt hl) h4).mono fun _ _ ⟨v, he, A4, c4, hc, hv, hss⟩ => ⟨v, he, (A4, c4, hs ++ [(A, k, k)], xss ++ [xs]), rfl, hv, ?_⟩
  have h5 := ss_bun3 hss
  unfold allG; dsimp only
  rw [List.length_append, List.length_singleton]; exact h5
set_option maxRecDepth 100000 in
theorem allReal_c (w : World) (A : Option Addr) (n : Nat) (c : Nat) (xs : List (Int)) (hA : At w A (cells fI xs)) (eA : xs.length = n) (lA : n ≤ c) (hs : xs.length ≤ 1048576) : Calls Try.prog 22 #[.slice A (n) (c)] w (Ret fun rv w' => ∃ A2 c2 hs, (True) ∧ rv = .slice A2 ((allV xs).length) ((allV xs).length) ∧ New w w' [row 25 2 A2 ((allV xs).length) (c2) (cells fG (gsOf xs.length hs)), nest 43 2 fE hs (allV xs)]) := by
  have oA := hA.atB
  subst eA
  refine fn_enter (args := [.slice A (xs.length) (c)]) Try.func22 rfl Try.ntmps22 rfl (SS.start w) ?_
  refine cw_seq ?_
  refine cw_region ?_
  refine wl_v (ov_assign rfl) rfl rfl rfl ?_
  refine wl_nil ?_
  refine ce_then ?_
  refine cw_seq ?_
  refine cw_seq ?_
  refine cw_region ?_
  refine wl_v (ov_move rfl) rfl rfl rfl ?_
  refine wl_r (or_call (fv := []) (vs := [.slice A (xs.length) (c), .int .i64 (5)]) (cs := []) en64 rfl rfl (call_v (fun w hw => listed_c w A xs.length c xs 5 ((holds_old oA) w hw) rfl lA (by first | assumption | omega | (simp; omega))))) rfl rfl (kt_if rfl (fun c5 => ?_) (fun c5 => ?_))
  ·
    have hV := c5.1
    have hv : allV xs = allR (prs xs.length) xs [] := if_pos ⟨c5.1, by have := c5.2; omega⟩
    refine wl_v (ov_not rfl) rfl rfl rfl ?_
    refine wl_nil ?_
    refine ce_then ?_
    refine cw_false rfl ?_
    refine cw_skip ?_
    refine ce_then ?_
    refine cw_seq ?_
    refine cw_region ?_
    refine wl_r (or_alloc tI38 rfl) rfl rfl (kt1 rfl (fun g3 => ?_))
    refine wl_nil ?_
    refine ce_then ?_
    refine cw_seq ?_
    refine ct_none fG 25 2 ?_
    refine ct_nest0 43 2 fE ?_
    refine cw_region ?_
    refine wl_v (ov_move rfl) rfl rfl rfl ?_
    refine wl_v (ov_len (sliceI_spec sI31) rfl) rfl rfl rfl ?_
    refine wl_v (ov_move rfl) rfl rfl rfl ?_
    refine wl_v (ov_len (sliceI_spec sI31) rfl) rfl rfl rfl ?_
    refine wl_r (or_call (fv := []) (vs := [.int .i64 (((xs.length : Nat) : Int))]) (cs := []) en66 rfl rfl (call_x2 (fun w hw => pairsI_c w xs.length (by omega)))) rfl rfl (kt2p rfl (fun A2_11 c2_11 h_11 => ?_))
    refine wl_v (ov_move rfl) rfl rfl rfl ?_
    refine wl_v (ov_makeFunc (vs := #[elp (some ⟨g3, 0, none⟩) (0)]) rfl) rfl rfl rfl ?_
    refine ct_bun3 (.cons (.tail (.tail (.tail .head))) (.cons (.tail (.tail .head)) (.cons (.tail .head) (.cons (.head) (.nil))))) ?_
    refine wl_r (or_call (fv := []) (vs := [.int .i64 (((xs.length : Nat) : Int)), .slice A2_11 ((prs xs.length).length) (c2_11), .slice A (xs.length) (c), .func (.func 67) #[] #[elp (some ⟨g3, 0, none⟩) (0)]]) (cs := []) en65 rfl rfl (call_o (.cons (.head) (.cons (.head) (.nil))) (fun w hw => sub_c w _ _ _ xs.length A2_11 ((prs xs.length).length) c2_11 (prs xs.length) A xs.length c xs 67 ([elp (some ⟨g3, 0, none⟩) (0)]) AllS (allG 38 25 43 g3 xs.length) allJ (fun s : AllS => s.2.2.2.length) true ((none, 0, [], []) : AllS) (holds_row (List.Mem.head _)) (by first | rfl | assumption | (simp; done) | (simp; omega)) h_11 (holds_old oA) (by first | rfl | assumption | (simp; done) | (simp; omega)) lA en67 (fun s F' A k c xs' w' hl hx hw => all1h w' _ _ F' xs.length g3 s A k c xs' hl hx hw) (fun s x s' h => by rw [show s'.2.2.2 = s.2.2.2 ++ [x] from h, List.length_append]; exact Nat.le_refl _) ⟨prs_small _ (by omega), by omega, rfl⟩ (fun e he => mem_prs.1 he) (fun x hx => by have := c5.1.2 x hx; omega) (by have := allR_bd (prs_small xs.length (by omega)) xs []; show 0 + _ ≤ _; omega) hw))) rfl rfl (kt1p rfl (fun s2_14 h_14 => ?_))
    refine ct_unbun3 (.cons (.head) (.cons (.head) (.nil))) (e1 := blk g3 [.slice s2_14.1 (s2_14.2.2.2.length) (s2_14.2.1)] 38) (e2 := row 25 2 s2_14.1 (s2_14.2.2.2.length) (s2_14.2.1) (cells fG (gsOf xs.length s2_14.2.2.1))) (e3 := nest 43 2 fE s2_14.2.2.1 s2_14.2.2.2) ?_
    refine ct_fact (room_fact (List.Mem.tail _ (List.Mem.head _))) (fun hroom => ?_)
    have hL : s2_14.2.2.2 = allV xs := (run_all h_14).trans hv.symm
    refine wl_nil ?_
    refine ce_then ?_
    refine cw_seq ?_
    refine cw_region ?_
    refine wl_v (ov_load tI38 (holds_blk (List.Mem.head _)) rfl rfl) rfl rfl rfl ?_
    refine ct_fact (nest_facts (List.Mem.tail _ (List.Mem.tail _ (List.Mem.head _)))) (fun hnfz => ?_)
    refine wl_r (or_call (fv := []) (vs := [.slice s2_14.1 (s2_14.2.2.2.length) (s2_14.2.1)]) (cs := []) en68 rfl rfl (call_v (fun w hw => clipG_c w s2_14.1 s2_14.2.2.2.length s2_14.2.1 (gsOf xs.length s2_14.2.2.1) ((holds_row (List.Mem.tail _ (List.Mem.head _))) w hw) (by rw [gsOf_length]; exact hnfz.1) hroom))) rfl rfl (kt0 rfl ?_)
    refine wl_v (ov_assign rfl) rfl rfl rfl ?_
    refine wl_nil ?_
    refine ce_then ?_
    refine cw_ret ?_
    refine ce_results (v := .slice s2_14.1 (s2_14.2.2.2.length) (s2_14.2.2.2.length)) (res1 rfl (rv_t rfl)) (fun w' hw => ?_)
    exact ⟨s2_14.1, s2_14.2.1, s2_14.2.2.1, trivial, (by rw [hL]), ((.consE (show row 25 2 s2_14.1 (s2_14.2.2.2.length) (s2_14.2.1) (cells fG (gsOf xs.length s2_14.2.2.1)) = row 25 2 s2_14.1 ((allV xs).length) (s2_14.2.1) (cells fG (gsOf xs.length s2_14.2.2.1)) by rw [hL]) (.tail .head) (.consE (show nest 43 2 fE s2_14.2.2.1 s2_14.2.2.2 = nest 43 2 fE s2_14.2.2.1 (allV xs) by rw [hL]) (.tail .head) (.nil)) : Keep _ _).ss hw).to_new⟩
  ·
    have hv : allV xs = [] := if_neg (fun h => c5 ⟨h.1, by have := h.2; omega⟩)
    refine wl_v (ov_not rfl) rfl rfl rfl ?_
    refine wl_nil ?_
    refine ce_then ?_
    refine cw_true rfl ?_
    refine cw_seq ?_
    refine ct_none fG 25 2 ?_
    refine ct_nest0 43 2 fE ?_
    refine cw_region ?_
    refine wl_v (ov_assign rfl) rfl rfl rfl ?_
    refine wl_nil ?_
    refine ce_then ?_
    refine cw_ret ?_
    refine ce_then_ret ?_
    refine ce_results (v := .slice none (0) (0)) (res1 rfl (rv_t rfl)) (fun w' hw => ?_)
    exact ⟨none, 0, [], trivial, (by rw [hv] <;> rfl), ((.consE (show row 25 2 none (0) (0) (cells fG (gsOf xs.length [])) = row 25 2 none ((allV xs).length) (0) (cells fG (gsOf xs.length [])) by rw [hv] <;> rfl) (.tail .head) (.consE (show nest 43 2 fE ([]) ([]) = nest 43 2 fE ([]) (allV xs) by rw [hv]) (.head) (.nil)) : Keep _ _).ss hw).to_new⟩
end Go.Proofs.Ytfjgfocjogfodaa.W17
