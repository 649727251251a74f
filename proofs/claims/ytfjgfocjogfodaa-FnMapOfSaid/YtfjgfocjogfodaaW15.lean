/- Walks of functions of the given program: each returns what its Lean function says and leaves the memory that was there as it was. Conditions: those of each theorem. -/
import Derived.Test.YtfjgfocjogfodaaSm
import Derived.Test.YtfjgfocjogfodaaProg
import Derived.Test.YtfjgfocjogfodaaPl
import Derived.Test.YtfjgfocjogfodaaPo
import Derived.Test.YtfjgfocjogfodaaPd
import Derived.Test.YtfjgfocjogfodaaPe
import Derived.Test.YtfjgfocjogfodaaPh
import Derived.Test.YtfjgfocjogfodaaPm
import Derived.Test.YtfjgfocjogfodaaPc
import Derived.Test.YtfjgfocjogfodaaPs
import Derived.Test.YtfjgfocjogfodaaPt
import Derived.Test.YtfjgfocjogfodaaPu
import Derived.Test.YtfjgfocjogfodaaPv
import Derived.Test.YtfjgfocjogfodaaPw
import Derived.Test.YtfjgfocjogfodaaPx
import Derived.Test.YtfjgfocjogfodaaPy
import Derived.Test.YtfjgfocjogfodaaPz
import Derived.Test.YtfjgfocjogfodaaPr
import Derived.Test.YtfjgfocjogfodaaT
import Derived.Test.YtfjgfocjogfodaaW1
import Derived.Test.YtfjgfocjogfodaaW2
import Derived.Test.YtfjgfocjogfodaaW5
import Derived.Test.YtfjgfocjogfodaaW6
import Derived.Test.YtfjgfocjogfodaaW8
import Derived.Test.YtfjgfocjogfodaaW11
import Derived.KernelRfl
namespace Go.Proofs.Ytfjgfocjogfodaa.W15
open Go.Sx Go.RowKit Go.Proofs.Ytfjgfocjogfodaa.T Go.Proofs.Ytfjgfocjogfodaa.W1 Go.Proofs.Ytfjgfocjogfodaa.W2 Go.Proofs.Ytfjgfocjogfodaa.W5 Go.Proofs.Ytfjgfocjogfodaa.W6 Go.Proofs.Ytfjgfocjogfodaa.W8 Go.Proofs.Ytfjgfocjogfodaa.W11
open Go.Plain
set_option linter.unusedVariables false
set_option maxRecDepth 100000 in
theorem both_c (w : World) (N : Int) (A : Option Addr) (n : Nat) (c : Nat) (es : List (Int × Int)) (M : Int) (A2 : Option Addr) (n2 : Nat) (c2 : Nat) (fs : List (Int × Int)) (hA : At w A (cells fE es)) (eA : es.length = n) (lA : n ≤ c) (hA2 : At w A2 (cells fE fs)) (eA2 : fs.length = n2) (lA2 : n2 ≤ c2) (hs : es.length ≤ 1048576 ∧ fs.length ≤ 1048576) (hN : N ≤ 9223372036854775807 ∧ M ≤ 9223372036854775807) : Calls Try.prog 75 #[.agg #[.int .i64 (N), .slice A (n) (c)], .agg #[.int .i64 (M), .slice A2 (n2) (c2)]] w (Ret fun rv w' => rv = .bool (decide (ValidG N es ∧ ValidG M fs ∧ N = M)) ∧ New w w' []) := by
  have oA := hA.atB
  subst eA
  have oA2 := hA2.atB
  subst eA2
  refine fn_enter (args := [.agg #[.int .i64 (N), .slice A (es.length) (c)], .agg #[.int .i64 (M), .slice A2 (fs.length) (c2)]]) Try.func75 rfl Try.ntmps75 rfl (SS.start w) ?_
  refine cw_seq ?_
  refine cw_region ?_
  refine wl_r (or_box rfl rfl) rfl rfl (kt1 rfl (fun g2 => ?_))
  refine wl_r (or_box rfl rfl) rfl rfl (kt1 rfl (fun g3 => ?_))
  refine wl_v (ov_assign rfl) rfl rfl rfl ?_
  refine wl_nil ?_
  refine ce_then ?_
  refine cw_seq ?_
  refine cw_region ?_
  refine wl_v (ov_loadAgg (vs := [.int .i64 (N), .slice A (es.length) (c)]) tI25 (holds_blk (List.Mem.tail _ (List.Mem.head _))) rfl some_lit rfl rfl) rfl rfl rfl ?_
  refine wl_r (or_call (fv := []) (vs := [.agg #[.int .i64 (N), .slice A (es.length) (c)]]) (cs := []) en12 rfl rfl (call_v (fun w hw => validGraphI_c w N A es.length c es ((holds_old oA) w hw) rfl lA (by first | assumption | omega | (simp; omega)) (by first | assumption | omega | (simp; omega))))) rfl rfl (kt_if rfl (fun c6 => ?_) (fun c6 => ?_))
  ·
    refine wl_v (ov_move rfl) rfl rfl rfl ?_
    refine wl_go rfl rfl ?_
    refine wl_v (ov_loadAgg (vs := [.int .i64 (M), .slice A2 (fs.length) (c2)]) tI25 (holds_blk (List.Mem.head _)) rfl some_lit rfl rfl) rfl rfl rfl ?_
    refine wl_go rfl rfl ?_
    refine wl_r (or_call (fv := []) (vs := [.agg #[.int .i64 (M), .slice A2 (fs.length) (c2)]]) (cs := []) en12 rfl rfl (call_v (fun w hw => validGraphI_c w M A2 fs.length c2 fs ((holds_old oA2) w hw) rfl lA2 (by first | assumption | omega | (simp; omega)) (by first | assumption | omega | (simp; omega))))) rfl rfl (kt_if rfl (fun c9 => ?_) (fun c9 => ?_))
    ·
      refine wl_v (ov_pick_t rfl rfl) rfl rfl rfl ?_
      refine wl_v (ov_move rfl) rfl rfl rfl ?_
      refine wl_go rfl rfl ?_
      refine wl_v (ov_fieldAddr fI25_0 some_lit rfl) rfl rfl rfl ?_
      refine wl_go rfl rfl ?_
      refine wl_v (ov_load tI3 (holds_blk (List.Mem.tail _ (List.Mem.head _))) rfl rfl) rfl rfl rfl ?_
      refine wl_go rfl rfl ?_
      refine wl_v (ov_fieldAddr fI25_0 some_lit rfl) rfl rfl rfl ?_
      refine wl_go rfl rfl ?_
      refine wl_v (ov_load tI3 (holds_blk (List.Mem.head _)) rfl rfl) rfl rfl rfl ?_
      refine wl_go rfl rfl ?_
      refine wl_if (ov_eql rfl rfl) rfl rfl rfl (fun c16 => ?_) (fun c16 => ?_)
      ·
        refine wl_v (ov_pick_t rfl rfl) rfl rfl rfl ?_
        refine wl_v (ov_assign rfl) rfl rfl rfl ?_
        refine wl_nil ?_
        refine ce_then ?_
        refine cw_ret ?_
        refine ce_results (v := .bool true) (res1 rfl (rv_t rfl)) (fun w' hw => ?_)
        exact ⟨(bt ⟨c6, c9, c16⟩), (Keep.nil.ss hw).to_new⟩
      ·
        refine wl_v (ov_pick_t rfl rfl) rfl rfl rfl ?_
        refine wl_v (ov_assign rfl) rfl rfl rfl ?_
        refine wl_nil ?_
        refine ce_then ?_
        refine cw_ret ?_
        refine ce_results (v := .bool false) (res1 rfl (rv_t rfl)) (fun w' hw => ?_)
        exact ⟨(bf (fun h => c16 h.2.2)), (Keep.nil.ss hw).to_new⟩
    ·
      refine wl_v (ov_pick_t rfl rfl) rfl rfl rfl ?_
      refine wl_v (ov_move rfl) rfl rfl rfl ?_
      refine wl_not rfl rfl rfl rfl rfl rfl ?_
      refine wl_not rfl rfl rfl rfl rfl rfl ?_
      refine wl_not rfl rfl rfl rfl rfl rfl ?_
      refine wl_not rfl rfl rfl rfl rfl rfl ?_
      refine wl_not rfl rfl rfl rfl rfl rfl ?_
      refine wl_v (ov_pick_f rfl rfl) rfl rfl rfl ?_
      refine wl_v (ov_assign rfl) rfl rfl rfl ?_
      refine wl_nil ?_
      refine ce_then ?_
      refine cw_ret ?_
      refine ce_results (v := .bool false) (res1 rfl (rv_t rfl)) (fun w' hw => ?_)
      exact ⟨(bf (fun h => c9 h.2.1)), (Keep.nil.ss hw).to_new⟩
  ·
    refine wl_v (ov_move rfl) rfl rfl rfl ?_
    refine wl_not rfl rfl rfl rfl rfl rfl ?_
    refine wl_not rfl rfl rfl rfl rfl rfl ?_
    refine wl_v (ov_pick_f rfl rfl) rfl rfl rfl ?_
    refine wl_v (ov_move rfl) rfl rfl rfl ?_
    refine wl_not rfl rfl rfl rfl rfl rfl ?_
    refine wl_not rfl rfl rfl rfl rfl rfl ?_
    refine wl_not rfl rfl rfl rfl rfl rfl ?_
    refine wl_not rfl rfl rfl rfl rfl rfl ?_
    refine wl_not rfl rfl rfl rfl rfl rfl ?_
    refine wl_v (ov_pick_f rfl rfl) rfl rfl rfl ?_
    refine wl_v (ov_assign rfl) rfl rfl rfl ?_
    refine wl_nil ?_
    refine ce_then ?_
    refine cw_ret ?_
    refine ce_results (v := .bool false) (res1 rfl (rv_t rfl)) (fun w' hw => ?_)
    exact ⟨(bf (fun h => c6 h.1)), (Keep.nil.ss hw).to_new⟩
set_option maxRecDepth 100000 in
theorem mapped1_c (w w0 : World) (Bd : Nat) (F : List Ent) (gg : Nat) (gh : Nat) (gw : Nat) (gt : Nat) (At : Option Addr) (nt : Nat) (ct : Nat) (ts : List Int) (m : Nat) (Ag : Option Addr) (ng : Nat) (cg : Nat) (es : List Ed) (Ah : Option Addr) (nh : Nat) (ch : Nat) (fs : List Ed) (hgg : Holds (SS w0 Bd F) (some ⟨gg, 0, none⟩) [.int .i64 (((m : Nat) : Int)), .slice Ag (ng) (cg)]) (hgh : Holds (SS w0 Bd F) (some ⟨gh, 0, none⟩) [.int .i64 (((m : Nat) : Int)), .slice Ah (nh) (ch)]) (hgw : Holds (SS w0 Bd F) (some ⟨gw, 0, none⟩) [.func (.func 129) #[] #[elp (some ⟨gt, 0, none⟩) (0), elp (some ⟨gg, 0, none⟩) (0), elp (some ⟨gh, 0, none⟩) (0), elp (some ⟨gw, 0, none⟩) (0)]]) (lt_ : nt ≤ ct) (e1 : ts.length = nt) (hAg : Holds (SS w0 Bd F) Ag (cells fE es)) (eAg : es.length = ng) (lAg : ng ≤ cg) (hAh : Holds (SS w0 Bd F) Ah (cells fE fs)) (eAh : fs.length = nh) (lAh : nh ≤ ch) (hg : Gr m es) (hf : Gr m fs) (hm : m ≤ 6) (ho : OkT m ts) (hss : SS w0 Bd ((blk gt [.slice At (nt) (ct)] 31) :: (row 3 1 At (nt) (ct) (cells fI ts)) :: F) w) : Calls Try.prog 129 #[elp (some ⟨gt, 0, none⟩) (0), elp (some ⟨gg, 0, none⟩) (0), elp (some ⟨gh, 0, none⟩) (0), elp (some ⟨gw, 0, none⟩) (0)] w (Ret fun rv w' => ∃ A2 c2 rs, (rs = (mapI es fs m (m - nt) ts).getD ts ∧ rs.length ≤ c2) ∧ rv = .bool ((mapI es fs m (m - nt) ts).isSome) ∧ SS w0 Bd ((blk gt [.slice A2 (rs.length) (c2)] 31) :: (row 3 1 A2 (rs.length) (c2) (cells fI rs)) :: F) w') := by
  have hel := hg.len (by omega)
  have hfl := hf.len (by omega)
  have htl := ho.len
  refine fn_enter (args := [elp (some ⟨gt, 0, none⟩) (0), elp (some ⟨gg, 0, none⟩) (0), elp (some ⟨gh, 0, none⟩) (0), elp (some ⟨gw, 0, none⟩) (0)]) Try.func129 rfl Try.ntmps129 rfl hss ?_
  refine cw_seq ?_
  refine cw_region ?_
  refine wl_v (ov_assign rfl) rfl rfl rfl ?_
  refine wl_nil ?_
  refine ce_then ?_
  refine cw_seq ?_
  refine cw_region ?_
  refine wl_v (ov_load tI31 (holds_blk (List.Mem.head _)) rfl rfl) rfl rfl rfl ?_
  refine wl_v (ov_len (sliceI_spec sI31) rfl) rfl rfl rfl ?_
  refine wl_v (ov_assign rfl) rfl rfl rfl ?_
  refine wl_nil ?_
  refine ce_then ?_
  refine cw_seq ?_
  refine cw_seq ?_
  refine cw_region ?_
  refine wl_v (ov_move rfl) rfl rfl rfl ?_
  refine wl_v (ov_fieldAddr fI25_0 some_lit rfl) rfl rfl rfl ?_
  refine wl_v (ov_load tI3 (Holds.keepF hgg ((.drop (.drop .refl)))) rfl rfl) rfl rfl rfl ?_
  refine wl_if (ov_eql rfl rfl) rfl rfl rfl (fun c15 => ?_) (fun c15 => ?_)
  ·
    refine wl_nil ?_
    refine ce_then ?_
    refine cw_true rfl ?_
    refine cw_seq ?_
    refine cw_region ?_
    refine wl_v (ov_assign rfl) rfl rfl rfl ?_
    refine wl_nil ?_
    refine ce_then ?_
    refine cw_ret ?_
    refine ce_then_ret ?_
    refine ce_results (v := .bool true) (res1 rfl (rv_t rfl)) (fun w' hw => ?_)
    exact ⟨At, ct, ts, ⟨by rw [show m - nt = 0 from by omega] <;> rfl, by omega⟩, (by rw [show m - nt = 0 from by omega] <;> rfl), ((.consE (show blk gt [.slice At (nt) (ct)] 31 = blk gt [.slice At (ts.length) (ct)] 31 by rw [e1]) (.head) (.consE (show row 3 1 At (nt) (ct) (cells fI ts) = row 3 1 At (ts.length) (ct) (cells fI ts) by rw [e1]) (.head) (.refl)) : Keep _ _).ss hw)⟩
  ·
    refine wl_nil ?_
    refine ce_then ?_
    refine cw_false rfl ?_
    refine cw_skip ?_
    refine ce_then ?_
    refine cw_seq ?_
    refine cw_seq ?_
    refine cw_region ?_
    refine wl_v (ov_fieldAddr fI25_0 some_lit rfl) rfl rfl rfl ?_
    refine wl_v (ov_load tI3 (Holds.keepF hgh ((.drop (.drop .refl)))) rfl rfl) rfl rfl rfl ?_
    refine wl_v (ov_move rfl) rfl rfl rfl ?_
    refine wl_nil ?_
    refine ce_then ?_
    refine cw_block ?_
    refine cw_loop3 (fun (v : Nat) (A3 : Option Addr) (c3 : Nat) => [(0, elp (some ⟨gt, 0, none⟩) (0)), (1, elp (some ⟨gg, 0, none⟩) (0)), (2, elp (some ⟨gh, 0, none⟩) (0)), (3, elp (some ⟨gw, 0, none⟩) (0)), (5, .int .i64 (((nt : Nat) : Int))), (17, .int .i64 (((m : Nat) : Int))), (18, .int .i64 (((v : Nat) : Int)))]) (fun (v : Nat) (A3 : Option Addr) (c3 : Nat) => (blk gt [.slice A3 (nt) (c3)] 31) :: (row 3 1 A3 (nt) (c3) (cells fI ts)) :: F) (fun (v : Nat) (A3 : Option Addr) (c3 : Nat) => v ≤ m ∧ nt ≤ c3 ∧ ∀ j, j < v → (if fitTo es fs ts ((j : Nat) : Int) ts.length = true then mapI es fs m (m - (nt + 1)) (ts ++ [((j : Nat) : Int)]) else none) = none) (fun (v : Nat) (A3 : Option Addr) (c3 : Nat) => m - v) 0 At ct ⟨by omega, lt_, fun j hj => absurd hj (Nat.not_lt_zero _)⟩ (.cons rfl (.cons rfl (.cons rfl (.cons rfl (.cons rfl (.cons rfl (.cons (congrArg (fun z => some (Value.int .i64 z)) (show 0 = ((0 : Nat) : Int) by first | omega | rfl | (simp; done))) (.nil)))))))) (.cons (.head) (.cons (.head) (.refl))) ?_
    intro R0 v A3 c3 hk hR0
    obtain ⟨hw1, hw2, hw3⟩ := hk
    refine cw_seq ?_
    refine cw_region ?_
    refine wl_if (ov_lss rfl rfl) rfl rfl rfl (fun c19 => ?_) (fun c19 => ?_)
    ·
      refine wl_nil ?_
      refine ce_then ?_
      refine cw_seq ?_
      refine cw_true rfl ?_
      refine cw_skip ?_
      refine ce_then ?_
      refine cw_seq ?_
      refine cw_block ?_
      refine cw_seq ?_
      refine cw_region ?_
      refine wl_v (ov_move rfl) rfl rfl rfl ?_
      refine wl_v (ov_assign rfl) rfl rfl rfl ?_
      refine wl_nil ?_
      refine ce_then ?_
      refine cw_seq ?_
      refine cw_region ?_
      refine wl_v (ov_load tI31 (holds_blk (List.Mem.head _)) rfl rfl) rfl rfl rfl ?_
      refine wl_v (ov_move rfl) rfl rfl rfl ?_
      refine wl_r (or_call (fv := []) (vs := [.slice A3 (nt) (c3), .int .i64 (((v : Nat) : Int))]) (cs := []) en101 rfl rfl (call_v (fun w hw => containsI_c w A3 nt c3 ts ((v : Nat) : Int) ((holds_row (List.Mem.tail _ (List.Mem.head _))) w hw) e1 hw2 (by omega)))) rfl rfl (kt_if rfl (fun c23 => ?_) (fun c23 => ?_))
      ·
        refine wl_v (ov_not rfl) rfl rfl rfl ?_
        refine wl_v (ov_assign rfl) rfl rfl rfl ?_
        refine wl_nil ?_
        refine ce_then ?_
        refine cw_seq ?_
        refine cw_seq ?_
        refine cw_region ?_
        refine wl_v (ov_load tI31 (holds_blk (List.Mem.head _)) rfl rfl) rfl rfl rfl ?_
        refine wl_v (ov_len (sliceI_spec sI31) rfl) rfl rfl rfl ?_
        refine wl_v (ov_move rfl) rfl rfl rfl ?_
        refine wl_nil ?_
        refine ce_then ?_
        refine cw_block ?_
        refine cw_loop1 (fun (u : Nat) => [(0, elp (some ⟨gt, 0, none⟩) (0)), (1, elp (some ⟨gg, 0, none⟩) (0)), (2, elp (some ⟨gh, 0, none⟩) (0)), (3, elp (some ⟨gw, 0, none⟩) (0)), (5, .int .i64 (((nt : Nat) : Int))), (6, .int .i64 (((v : Nat) : Int))), (17, .int .i64 (((m : Nat) : Int))), (18, .int .i64 (((v : Nat) : Int))), (25, .slice A3 (nt) (c3)), (26, .int .i64 (((nt : Nat) : Int))), (7, .bool (fitTo es fs ts ((v : Nat) : Int) u)), (27, .int .i64 (((u : Nat) : Int)))]) (fun (u : Nat) => (blk gt [.slice A3 (nt) (c3)] 31) :: (row 3 1 A3 (nt) (c3) (cells fI ts)) :: F) (fun (u : Nat) => u ≤ nt) (fun (u : Nat) => nt - u) 0 (by omega) (.cons rfl (.cons rfl (.cons rfl (.cons rfl (.cons rfl (.cons rfl (.cons rfl (.cons rfl (.cons rfl (.cons rfl (.cons (congrArg (fun z => some (Value.bool z)) (by rw [fitTo_zero, decide_eq_true c23] <;> rfl)) (.cons (congrArg (fun z => some (Value.int .i64 z)) (show 0 = ((0 : Nat) : Int) by first | omega | rfl | (simp; done))) (.nil))))))))))))) (.cons (.head) (.cons (.head) (.refl))) ?_
        intro R1 u hk1 hR1
        refine cw_seq ?_
        refine cw_region ?_
        refine wl_if (ov_lss rfl rfl) rfl rfl rfl (fun c28 => ?_) (fun c28 => ?_)
        ·
          refine wl_nil ?_
          refine ce_then ?_
          refine cw_seq ?_
          refine cw_true rfl ?_
          refine cw_skip ?_
          refine ce_then ?_
          refine cw_seq ?_
          refine cw_block ?_
          refine cw_seq ?_
          refine cw_region ?_
          refine wl_v (ov_move rfl) rfl rfl rfl ?_
          refine wl_v (ov_index (k := u) (c := c3) sI31 tI3 rfl rfl (some_holds (q := u * 1) (holds_row (List.Mem.tail _ (List.Mem.head _))) (by rw [cells_length fI_len]; have hlt : u < ts.length := (by omega); omega)) (show u < nt from (by omega))) rfl rfl rfl ?_
          refine wl_v (ov_load tI3 (holds_row (List.Mem.tail _ (List.Mem.head _))) rfl (get_fI (show u < ts.length from (by omega)))) rfl rfl rfl ?_
          refine wl_v (ov_assign rfl) rfl rfl rfl ?_
          refine wl_v (ov_assign rfl) rfl rfl rfl ?_
          refine wl_nil ?_
          refine ce_then ?_
          refine ct_bool (i := 7) rfl (fun b7 => ?_) (fun b7 => ?_)
          ·
            refine cw_draw mixO [] (.cons (.head) (.cons (.head) (.refl))) rfl ?_
            refine wg_takep (i := 0) rfl (ov_move rfl) rfl rfl rfl (by kernel_rfl) (by kernel_rfl) (by kernel_rfl) rfl ?_
            refine wg_takep (i := 1) rfl (ov_move rfl) rfl rfl rfl (by kernel_rfl) (by kernel_rfl) (by kernel_rfl) rfl ?_
            refine wg_take_go (i := 2) rfl rfl rfl (ov_loadAgg (vs := [.int .i64 (((m : Nat) : Int)), .slice Ag (ng) (cg)]) tI25 (Holds.keepF hgg ((.drop (.drop .refl)))) rfl some_lit rfl rfl) rfl (by kernel_rfl) (by kernel_rfl) (by kernel_rfl) (by kernel_rfl) ?_
            refine wg_take_go (i := 3) rfl rfl rfl (ov_move rfl) rfl (by kernel_rfl) (by kernel_rfl) (by kernel_rfl) (by kernel_rfl) ?_
            refine wg_take_go (i := 4) rfl rfl rfl (ov_move rfl) rfl (by kernel_rfl) (by kernel_rfl) (by kernel_rfl) (by kernel_rfl) ?_
            refine wg_take_go (i := 6) rfl rfl rfl (ov_loadAgg (vs := [.int .i64 (((m : Nat) : Int)), .slice Ah (nh) (ch)]) tI25 (Holds.keepF hgh ((.drop (.drop .refl)))) rfl some_lit rfl rfl) rfl (by kernel_rfl) (by kernel_rfl) (by kernel_rfl) (by kernel_rfl) ?_
            refine wg_take_go (i := 7) rfl rfl rfl (ov_move rfl) rfl (by kernel_rfl) (by kernel_rfl) (by kernel_rfl) (by kernel_rfl) ?_
            refine wg_take_go (i := 8) rfl rfl rfl (ov_move rfl) rfl (by kernel_rfl) (by kernel_rfl) (by kernel_rfl) (by kernel_rfl) ?_
            refine wg_one (i := 5) (by kernel_rfl) ?_
            refine go_rg rfl rfl rfl rfl (or_call (fv := []) (vs := [.agg #[.int .i64 (((m : Nat) : Int)), .slice Ag (ng) (cg)], .int .i64 (((u : Nat) : Int)), .int .i64 (((nt : Nat) : Int))]) (cs := []) en59 rfl rfl (call_v (fun w hw => has_c w ((m : Nat) : Int) Ag ng cg es ((u : Nat) : Int) ((nt : Nat) : Int) ((Holds.keepF hAg ((.drop (.drop .refl)))) w hw) eAg lAg (by omega)))) (kt_if rfl (fun c37 => ?_) (fun c37 => ?_))
            ·
              refine gk (.cons (.head) (.cons (.head) (.refl))) ?_
              refine wg_one (i := 9) (by kernel_rfl) ?_
              refine go_rg rfl rfl rfl rfl (or_call (fv := []) (vs := [.agg #[.int .i64 (((m : Nat) : Int)), .slice Ah (nh) (ch)], .int .i64 ((ts.getD u 0)), .int .i64 (((v : Nat) : Int))]) (cs := []) en59 rfl rfl (call_v (fun w hw => has_c w ((m : Nat) : Int) Ah nh ch fs (ts.getD u 0) ((v : Nat) : Int) ((Holds.keepF hAh ((.drop (.drop .refl)))) w hw) eAh lAh (by omega)))) (kt_if rfl (fun c41 => ?_) (fun c41 => ?_))
              ·
                refine gk (.cons (.head) (.cons (.head) (.refl))) ?_
                refine wg_take_go (i := 10) rfl rfl rfl (ov_eqlb uI4 rfl rfl) rfl (by kernel_rfl) (by kernel_rfl) (by kernel_rfl) (by kernel_rfl) ?_
                refine wg_takep (i := 11) rfl (ov_pick_t rfl rfl) rfl rfl rfl (by kernel_rfl) (by kernel_rfl) (by kernel_rfl) rfl ?_
                refine wg_takep (i := 12) rfl (ov_assign rfl) rfl rfl rfl (by kernel_rfl) (by kernel_rfl) (by kernel_rfl) rfl ?_
                refine wg_done (by kernel_rfl) ?_
                refine ce_block ?_
                refine ce_then ?_
                refine cw_region ?_
                refine wl_v (ov_add (r := ((u + 1 : Nat) : Int)) rfl rfl rfl (by omega)) rfl rfl rfl ?_
                refine wl_v (ov_move rfl) rfl rfl rfl ?_
                refine wl_nil ?_
                exact fun ac_ w_ hs_ => hR1 (u + 1) (by omega) (by omega) ac_ w_ (hs_.weaken (.cons rfl (.cons rfl (.cons rfl (.cons rfl (.cons rfl (.cons rfl (.cons rfl (.cons rfl (.cons rfl (.cons rfl (.cons (congrArg (fun z => some (Value.bool z)) (by rw [fitTo_succ, b7, e1, decide_eq_true c37, decide_eq_true c41]; rfl)) (.cons rfl (.nil))))))))))))) (.cons (.head) (.cons (.head) (.refl))))
              ·
                refine gk (.cons (.head) (.cons (.head) (.refl))) ?_
                refine wg_take_go (i := 10) rfl rfl rfl (ov_eqlb uI4 rfl rfl) rfl (by kernel_rfl) (by kernel_rfl) (by kernel_rfl) (by kernel_rfl) ?_
                refine wg_takep (i := 11) rfl (ov_pick_t rfl rfl) rfl rfl rfl (by kernel_rfl) (by kernel_rfl) (by kernel_rfl) rfl ?_
                refine wg_takep (i := 12) rfl (ov_assign rfl) rfl rfl rfl (by kernel_rfl) (by kernel_rfl) (by kernel_rfl) rfl ?_
                refine wg_done (by kernel_rfl) ?_
                refine ce_block ?_
                refine ce_then ?_
                refine cw_region ?_
                refine wl_v (ov_add (r := ((u + 1 : Nat) : Int)) rfl rfl rfl (by omega)) rfl rfl rfl ?_
                refine wl_v (ov_move rfl) rfl rfl rfl ?_
                refine wl_nil ?_
                exact fun ac_ w_ hs_ => hR1 (u + 1) (by omega) (by omega) ac_ w_ (hs_.weaken (.cons rfl (.cons rfl (.cons rfl (.cons rfl (.cons rfl (.cons rfl (.cons rfl (.cons rfl (.cons rfl (.cons rfl (.cons (congrArg (fun z => some (Value.bool z)) (by rw [fitTo_succ, b7, e1, decide_eq_true c37, decide_eq_false c41]; rfl)) (.cons rfl (.nil))))))))))))) (.cons (.head) (.cons (.head) (.refl))))
            ·
              refine gk (.cons (.head) (.cons (.head) (.refl))) ?_
              refine wg_one (i := 9) (by kernel_rfl) ?_
              refine go_rg rfl rfl rfl rfl (or_call (fv := []) (vs := [.agg #[.int .i64 (((m : Nat) : Int)), .slice Ah (nh) (ch)], .int .i64 ((ts.getD u 0)), .int .i64 (((v : Nat) : Int))]) (cs := []) en59 rfl rfl (call_v (fun w hw => has_c w ((m : Nat) : Int) Ah nh ch fs (ts.getD u 0) ((v : Nat) : Int) ((Holds.keepF hAh ((.drop (.drop .refl)))) w hw) eAh lAh (by omega)))) (kt_if rfl (fun c41 => ?_) (fun c41 => ?_))
              ·
                refine gk (.cons (.head) (.cons (.head) (.refl))) ?_
                refine wg_take_go (i := 10) rfl rfl rfl (ov_eqlb uI4 rfl rfl) rfl (by kernel_rfl) (by kernel_rfl) (by kernel_rfl) (by kernel_rfl) ?_
                refine wg_takep (i := 11) rfl (ov_pick_t rfl rfl) rfl rfl rfl (by kernel_rfl) (by kernel_rfl) (by kernel_rfl) rfl ?_
                refine wg_takep (i := 12) rfl (ov_assign rfl) rfl rfl rfl (by kernel_rfl) (by kernel_rfl) (by kernel_rfl) rfl ?_
                refine wg_done (by kernel_rfl) ?_
                refine ce_block ?_
                refine ce_then ?_
                refine cw_region ?_
                refine wl_v (ov_add (r := ((u + 1 : Nat) : Int)) rfl rfl rfl (by omega)) rfl rfl rfl ?_
                refine wl_v (ov_move rfl) rfl rfl rfl ?_
                refine wl_nil ?_
                exact fun ac_ w_ hs_ => hR1 (u + 1) (by omega) (by omega) ac_ w_ (hs_.weaken (.cons rfl (.cons rfl (.cons rfl (.cons rfl (.cons rfl (.cons rfl (.cons rfl (.cons rfl (.cons rfl (.cons rfl (.cons (congrArg (fun z => some (Value.bool z)) (by rw [fitTo_succ, b7, e1, decide_eq_false c37, decide_eq_true c41]; rfl)) (.cons rfl (.nil))))))))))))) (.cons (.head) (.cons (.head) (.refl))))
              ·
                refine gk (.cons (.head) (.cons (.head) (.refl))) ?_
                refine wg_take_go (i := 10) rfl rfl rfl (ov_eqlb uI4 rfl rfl) rfl (by kernel_rfl) (by kernel_rfl) (by kernel_rfl) (by kernel_rfl) ?_
                refine wg_takep (i := 11) rfl (ov_pick_t rfl rfl) rfl rfl rfl (by kernel_rfl) (by kernel_rfl) (by kernel_rfl) rfl ?_
                refine wg_takep (i := 12) rfl (ov_assign rfl) rfl rfl rfl (by kernel_rfl) (by kernel_rfl) (by kernel_rfl) rfl ?_
                refine wg_done (by kernel_rfl) ?_
                refine ce_block ?_
                refine ce_then ?_
                refine cw_region ?_
                refine wl_v (ov_add (r := ((u + 1 : Nat) : Int)) rfl rfl rfl (by omega)) rfl rfl rfl ?_
                refine wl_v (ov_move rfl) rfl rfl rfl ?_
                refine wl_nil ?_
                exact fun ac_ w_ hs_ => hR1 (u + 1) (by omega) (by omega) ac_ w_ (hs_.weaken (.cons rfl (.cons rfl (.cons rfl (.cons rfl (.cons rfl (.cons rfl (.cons rfl (.cons rfl (.cons rfl (.cons rfl (.cons (congrArg (fun z => some (Value.bool z)) (by rw [fitTo_succ, b7, e1, decide_eq_false c37, decide_eq_false c41]; rfl)) (.cons rfl (.nil))))))))))))) (.cons (.head) (.cons (.head) (.refl))))
          ·
            refine cw_draw mixO [] (.cons (.head) (.cons (.head) (.refl))) rfl ?_
            refine wg_takep (i := 0) rfl (ov_move rfl) rfl rfl rfl (by kernel_rfl) (by kernel_rfl) (by kernel_rfl) rfl ?_
            refine wg_takep (i := 1) rfl (ov_move rfl) rfl rfl rfl (by kernel_rfl) (by kernel_rfl) (by kernel_rfl) rfl ?_
            refine wg_take_not (i := 2) rfl rfl rfl rfl rfl (by kernel_rfl) (by kernel_rfl) (by kernel_rfl) (by kernel_rfl) ?_
            refine wg_take_not (i := 3) rfl rfl rfl rfl rfl (by kernel_rfl) (by kernel_rfl) (by kernel_rfl) (by kernel_rfl) ?_
            refine wg_take_not (i := 4) rfl rfl rfl rfl rfl (by kernel_rfl) (by kernel_rfl) (by kernel_rfl) (by kernel_rfl) ?_
            refine wg_take_not (i := 5) rfl rfl rfl rfl rfl (by kernel_rfl) (by kernel_rfl) (by kernel_rfl) (by kernel_rfl) ?_
            refine wg_take_not (i := 6) rfl rfl rfl rfl rfl (by kernel_rfl) (by kernel_rfl) (by kernel_rfl) (by kernel_rfl) ?_
            refine wg_take_not (i := 7) rfl rfl rfl rfl rfl (by kernel_rfl) (by kernel_rfl) (by kernel_rfl) (by kernel_rfl) ?_
            refine wg_take_not (i := 8) rfl rfl rfl rfl rfl (by kernel_rfl) (by kernel_rfl) (by kernel_rfl) (by kernel_rfl) ?_
            refine wg_take_not (i := 9) rfl rfl rfl rfl rfl (by kernel_rfl) (by kernel_rfl) (by kernel_rfl) (by kernel_rfl) ?_
            refine wg_take_not (i := 10) rfl rfl rfl rfl rfl (by kernel_rfl) (by kernel_rfl) (by kernel_rfl) (by kernel_rfl) ?_
            refine wg_takep (i := 11) rfl (ov_pick_f rfl rfl) rfl rfl rfl (by kernel_rfl) (by kernel_rfl) (by kernel_rfl) rfl ?_
            refine wg_takep (i := 12) rfl (ov_assign rfl) rfl rfl rfl (by kernel_rfl) (by kernel_rfl) (by kernel_rfl) rfl ?_
            refine wg_done (by kernel_rfl) ?_
            refine ce_block ?_
            refine ce_then ?_
            refine cw_region ?_
            refine wl_v (ov_add (r := ((u + 1 : Nat) : Int)) rfl rfl rfl (by omega)) rfl rfl rfl ?_
            refine wl_v (ov_move rfl) rfl rfl rfl ?_
            refine wl_nil ?_
            exact fun ac_ w_ hs_ => hR1 (u + 1) (by omega) (by omega) ac_ w_ (hs_.weaken (.cons rfl (.cons rfl (.cons rfl (.cons rfl (.cons rfl (.cons rfl (.cons rfl (.cons rfl (.cons rfl (.cons rfl (.cons (congrArg (fun z => some (Value.bool z)) (by rw [fitTo_succ, b7]; rfl)) (.cons rfl (.nil))))))))))))) (.cons (.head) (.cons (.head) (.refl))))
        ·
          refine wl_nil ?_
          refine ce_then ?_
          refine cw_seq ?_
          refine cw_false rfl ?_
          refine cw_exit ?_
          refine ce_then_exit ?_
          refine ce_then_exit ?_
          refine ce_hit ?_
          refine ce_then ?_
          refine cw_seq ?_
          refine cw_seq ?_
          refine cw_region ?_
          refine wl_v (ov_move rfl) rfl rfl rfl ?_
          refine wl_if (OpV.dec (ov_not rfl)) rfl rfl rfl (fun c46 => ?_) (fun c46 => ?_)
          ·
            refine wl_nil ?_
            refine ce_then ?_
            refine cw_true rfl ?_
            refine cw_exit ?_
            refine ce_then_exit ?_
            refine ce_hit ?_
            refine ce_then ?_
            refine cw_region ?_
            refine wl_v (ov_add (r := ((v + 1 : Nat) : Int)) rfl rfl rfl (by omega)) rfl rfl rfl ?_
            refine wl_v (ov_move rfl) rfl rfl rfl ?_
            refine wl_nil ?_
            exact fun ac_ w_ hs_ => hR0 (v + 1) A3 c3 ⟨by omega, hw2, (fun j hj => by rcases Nat.lt_succ_iff_lt_or_eq.1 hj with h | rfl; exact hw3 j h; exact if_neg (fun hq => by rw [e1, show nt = u from by omega] at hq; simp [hq] at c46))⟩ (by omega) ac_ w_ (hs_.weaken (.cons rfl (.cons rfl (.cons rfl (.cons rfl (.cons rfl (.cons rfl (.cons rfl (.nil)))))))) (.cons (.head) (.cons (.head) (.refl))))
          ·
            have hfit : fitTo es fs ts ((v : Nat) : Int) ts.length = true := by rw [e1, show nt = u from by omega]; simpa using c46
            refine wl_nil ?_
            refine ce_then ?_
            refine cw_false rfl ?_
            refine cw_skip ?_
            refine ce_then ?_
            refine cw_seq ?_
            refine cw_region ?_
            refine wl_v (ov_load tI31 (holds_blk (List.Mem.head _)) rfl rfl) rfl rfl rfl ?_
            refine wl_v (ov_move rfl) rfl rfl rfl ?_
            refine wl_r (or_buildSlice (e := 3) (size := 1) (is := [0]) (vs := [.int .i64 (((v : Nat) : Int))]) (cs := cells fI ([((v : Nat) : Int)])) rfl rfl rfl (by decide) (fun _ => by kernel_rfl)) rfl rfl (kt1 rfl (fun g49 => ?_))
            refine wl_r (or_append (c2 := 1) sI31 tI3 rfl (by decide) rfl rfl (.tail (.tail .head)) (holds_row (List.Mem.head _)) (by rw [cells_length fI_len]; try simp) (one_cells fI_one _) cells_append (by omega) (by omega)) rfl rfl (kt2p rfl (fun A50 c50 h50 => ?_))
            refine wl_r0 (or_store_blk (vs := [.slice A50 (nt + 1) (c50)]) (cs' := [.slice A50 (nt + 1) (c50)]) (.tail (.tail .head)) tI31 rfl rfl rfl rfl (Nat.le_of_ble_eq_true rfl) rfl) rfl rfl (kn0 ?_)
            refine wl_nil ?_
            refine ce_then ?_
            refine cw_seq ?_
            refine cw_seq ?_
            refine cw_region ?_
            refine wl_v (ov_load tI118 (Holds.keepF hgw ((.drop (.drop (.drop .refl))))) rfl rfl) rfl rfl rfl ?_
            refine wl_r (or_call (fv := []) (vs := []) (cs := [elp (some ⟨gt, 0, none⟩) (0), elp (some ⟨gg, 0, none⟩) (0), elp (some ⟨gh, 0, none⟩) (0), elp (some ⟨gw, 0, none⟩) (0)]) en129 rfl rfl (call_o (.cons (.head) (.cons (.head) (.cons (.head) (.refl)))) (fun w hw => mapped1_c w _ _ _ gg gh gw gt A50 (nt + 1) c50 (ts ++ ([((v : Nat) : Int)])) m Ag ng cg es Ah nh ch fs (Holds.keepF hgg ((.drop .refl))) (Holds.keepF hgh ((.drop .refl))) (Holds.keepF hgw ((.drop .refl))) h50 (by rw [List.length_append, e1]; rfl) (Holds.keepF hAg ((.drop .refl))) (by first | rfl | assumption | (simp; done) | (simp; omega)) lAg (Holds.keepF hAh ((.drop .refl))) (by first | rfl | assumption | (simp; done) | (simp; omega)) lAh (by first | assumption | omega | (simp; omega)) (by first | assumption | omega | (simp; omega)) (by first | assumption | omega | (simp; omega)) (ho.snoc (by omega) (fit_iff.1 hfit).1) hw))) rfl rfl (kt3p rfl (fun A2_52 c2_52 rs_52 h_52 => ?_))
            refine wl_nil ?_
            refine ce_then ?_
            refine ct_bool (i := 52) rfl (fun b52 => ?_) (fun b52 => ?_)
            ·
              obtain ⟨x, hx⟩ := Option.isSome_iff_exists.1 b52
              have hz : mapI es fs m (m - nt) ts = some x := by rw [show m - nt = (m - (nt + 1)) + 1 from by omega, mapI]; exact fsome_found (w := v) (by omega) (by rw [if_pos hfit]; exact hx) hw3
              refine cw_true rfl ?_
              refine cw_seq ?_
              refine cw_region ?_
              refine wl_v (ov_assign rfl) rfl rfl rfl ?_
              refine wl_nil ?_
              refine ce_then ?_
              refine cw_ret ?_
              refine ce_then_ret ?_
              refine ce_block_ret ?_
              refine ce_then_ret ?_
              refine ce_then_ret ?_
              refine ce_block_ret ?_
              refine ce_then_ret ?_
              refine ce_results (v := .bool true) (res1 rfl (rv_t rfl)) (fun w' hw => ?_)
              exact ⟨A2_52, c2_52, rs_52, ⟨by rw [h_52.1, hx, hz]; rfl, h_52.2⟩, (by rw [hz]; rfl), ((.cons (.head) (.cons (.head) ((.drop .refl))) : Keep _ _).ss hw)⟩
            ·
              have hz0 : mapI es fs m (m - (nt + 1)) (ts ++ [((v : Nat) : Int)]) = none := by simpa using b52
              have hrs : rs_52 = ts ++ [((v : Nat) : Int)] := by rw [h_52.1, hz0]; rfl
              have hrl : rs_52.length = nt + 1 := by rw [hrs, List.length_append, e1]; rfl
              refine cw_false rfl ?_
              refine cw_skip ?_
              refine ce_then ?_
              refine cw_region ?_
              refine wl_v (ov_load tI31 (holds_blk (List.Mem.head _)) rfl rfl) rfl rfl rfl ?_
              refine wl_v (ov_move rfl) rfl rfl rfl ?_
              refine wl_v (ov_slice_h (h := nt) sI31 tI3 rfl rfl (by omega)) rfl rfl rfl ?_
              refine ct_first (k := nt) (.cons (.tail .head) (.cons (.head) (.cons (.head) (.refl)))) fI_len (by omega) ?_
              refine wl_r0 (or_store_blk (vs := [.slice A2_52 (nt) (c2_52)]) (cs' := [.slice A2_52 (nt) (c2_52)]) (.tail .head) tI31 rfl rfl rfl rfl (Nat.le_of_ble_eq_true rfl) rfl) rfl rfl (kn0 ?_)
              refine wl_nil ?_
              refine ce_block ?_
              refine ce_then ?_
              refine cw_region ?_
              refine wl_v (ov_add (r := ((v + 1 : Nat) : Int)) rfl rfl rfl (by omega)) rfl rfl rfl ?_
              refine wl_v (ov_move rfl) rfl rfl rfl ?_
              refine wl_nil ?_
              exact fun ac_ w_ hs_ => hR0 (v + 1) A2_52 c2_52 ⟨by omega, by omega, (fun j hj => by rcases Nat.lt_succ_iff_lt_or_eq.1 hj with h | rfl; exact hw3 j h; exact (if_pos hfit).trans hz0)⟩ (by omega) ac_ w_ (hs_.weaken (.cons rfl (.cons rfl (.cons rfl (.cons rfl (.cons rfl (.cons rfl (.cons rfl (.nil)))))))) (.cons (.head) (.consE (show row 3 1 A2_52 (nt) (c2_52) (cells fI (rs_52.take nt)) = row 3 1 A2_52 (nt) (c2_52) (cells fI ts) by rw [hrs, show (ts ++ [((v : Nat) : Int)]).take nt = ts from by rw [← e1]; exact List.take_left]) (.head) ((.drop .refl)))))
      ·
        refine wl_v (ov_not rfl) rfl rfl rfl ?_
        refine wl_v (ov_assign rfl) rfl rfl rfl ?_
        refine wl_nil ?_
        refine ce_then ?_
        refine cw_seq ?_
        refine cw_seq ?_
        refine cw_region ?_
        refine wl_v (ov_load tI31 (holds_blk (List.Mem.head _)) rfl rfl) rfl rfl rfl ?_
        refine wl_v (ov_len (sliceI_spec sI31) rfl) rfl rfl rfl ?_
        refine wl_v (ov_move rfl) rfl rfl rfl ?_
        refine wl_nil ?_
        refine ce_then ?_
        refine cw_block ?_
        refine cw_loop1 (fun (u : Nat) => [(0, elp (some ⟨gt, 0, none⟩) (0)), (1, elp (some ⟨gg, 0, none⟩) (0)), (2, elp (some ⟨gh, 0, none⟩) (0)), (3, elp (some ⟨gw, 0, none⟩) (0)), (5, .int .i64 (((nt : Nat) : Int))), (6, .int .i64 (((v : Nat) : Int))), (17, .int .i64 (((m : Nat) : Int))), (18, .int .i64 (((v : Nat) : Int))), (25, .slice A3 (nt) (c3)), (26, .int .i64 (((nt : Nat) : Int))), (7, .bool (fitTo es fs ts ((v : Nat) : Int) u)), (27, .int .i64 (((u : Nat) : Int)))]) (fun (u : Nat) => (blk gt [.slice A3 (nt) (c3)] 31) :: (row 3 1 A3 (nt) (c3) (cells fI ts)) :: F) (fun (u : Nat) => u ≤ nt) (fun (u : Nat) => nt - u) 0 (by omega) (.cons rfl (.cons rfl (.cons rfl (.cons rfl (.cons rfl (.cons rfl (.cons rfl (.cons rfl (.cons rfl (.cons rfl (.cons (congrArg (fun z => some (Value.bool z)) (by rw [fitTo_zero, decide_eq_false c23] <;> rfl)) (.cons (congrArg (fun z => some (Value.int .i64 z)) (show 0 = ((0 : Nat) : Int) by first | omega | rfl | (simp; done))) (.nil))))))))))))) (.cons (.head) (.cons (.head) (.refl))) ?_
        intro R1 u hk1 hR1
        refine cw_seq ?_
        refine cw_region ?_
        refine wl_if (ov_lss rfl rfl) rfl rfl rfl (fun c28 => ?_) (fun c28 => ?_)
        ·
          refine wl_nil ?_
          refine ce_then ?_
          refine cw_seq ?_
          refine cw_true rfl ?_
          refine cw_skip ?_
          refine ce_then ?_
          refine cw_seq ?_
          refine cw_block ?_
          refine cw_seq ?_
          refine cw_region ?_
          refine wl_v (ov_move rfl) rfl rfl rfl ?_
          refine wl_v (ov_index (k := u) (c := c3) sI31 tI3 rfl rfl (some_holds (q := u * 1) (holds_row (List.Mem.tail _ (List.Mem.head _))) (by rw [cells_length fI_len]; have hlt : u < ts.length := (by omega); omega)) (show u < nt from (by omega))) rfl rfl rfl ?_
          refine wl_v (ov_load tI3 (holds_row (List.Mem.tail _ (List.Mem.head _))) rfl (get_fI (show u < ts.length from (by omega)))) rfl rfl rfl ?_
          refine wl_v (ov_assign rfl) rfl rfl rfl ?_
          refine wl_v (ov_assign rfl) rfl rfl rfl ?_
          refine wl_nil ?_
          refine ce_then ?_
          refine ct_bool (i := 7) rfl (fun b7 => ?_) (fun b7 => ?_)
          ·
            refine cw_draw mixO [] (.cons (.head) (.cons (.head) (.refl))) rfl ?_
            refine wg_takep (i := 0) rfl (ov_move rfl) rfl rfl rfl (by kernel_rfl) (by kernel_rfl) (by kernel_rfl) rfl ?_
            refine wg_takep (i := 1) rfl (ov_move rfl) rfl rfl rfl (by kernel_rfl) (by kernel_rfl) (by kernel_rfl) rfl ?_
            refine wg_take_go (i := 2) rfl rfl rfl (ov_loadAgg (vs := [.int .i64 (((m : Nat) : Int)), .slice Ag (ng) (cg)]) tI25 (Holds.keepF hgg ((.drop (.drop .refl)))) rfl some_lit rfl rfl) rfl (by kernel_rfl) (by kernel_rfl) (by kernel_rfl) (by kernel_rfl) ?_
            refine wg_take_go (i := 3) rfl rfl rfl (ov_move rfl) rfl (by kernel_rfl) (by kernel_rfl) (by kernel_rfl) (by kernel_rfl) ?_
            refine wg_take_go (i := 4) rfl rfl rfl (ov_move rfl) rfl (by kernel_rfl) (by kernel_rfl) (by kernel_rfl) (by kernel_rfl) ?_
            refine wg_take_go (i := 6) rfl rfl rfl (ov_loadAgg (vs := [.int .i64 (((m : Nat) : Int)), .slice Ah (nh) (ch)]) tI25 (Holds.keepF hgh ((.drop (.drop .refl)))) rfl some_lit rfl rfl) rfl (by kernel_rfl) (by kernel_rfl) (by kernel_rfl) (by kernel_rfl) ?_
            refine wg_take_go (i := 7) rfl rfl rfl (ov_move rfl) rfl (by kernel_rfl) (by kernel_rfl) (by kernel_rfl) (by kernel_rfl) ?_
            refine wg_take_go (i := 8) rfl rfl rfl (ov_move rfl) rfl (by kernel_rfl) (by kernel_rfl) (by kernel_rfl) (by kernel_rfl) ?_
            refine wg_one (i := 5) (by kernel_rfl) ?_
            refine go_rg rfl rfl rfl rfl (or_call (fv := []) (vs := [.agg #[.int .i64 (((m : Nat) : Int)), .slice Ag (ng) (cg)], .int .i64 (((u : Nat) : Int)), .int .i64 (((nt : Nat) : Int))]) (cs := []) en59 rfl rfl (call_v (fun w hw => has_c w ((m : Nat) : Int) Ag ng cg es ((u : Nat) : Int) ((nt : Nat) : Int) ((Holds.keepF hAg ((.drop (.drop .refl)))) w hw) eAg lAg (by omega)))) (kt_if rfl (fun c37 => ?_) (fun c37 => ?_))
            ·
              refine gk (.cons (.head) (.cons (.head) (.refl))) ?_
              refine wg_one (i := 9) (by kernel_rfl) ?_
              refine go_rg rfl rfl rfl rfl (or_call (fv := []) (vs := [.agg #[.int .i64 (((m : Nat) : Int)), .slice Ah (nh) (ch)], .int .i64 ((ts.getD u 0)), .int .i64 (((v : Nat) : Int))]) (cs := []) en59 rfl rfl (call_v (fun w hw => has_c w ((m : Nat) : Int) Ah nh ch fs (ts.getD u 0) ((v : Nat) : Int) ((Holds.keepF hAh ((.drop (.drop .refl)))) w hw) eAh lAh (by omega)))) (kt_if rfl (fun c41 => ?_) (fun c41 => ?_))
              ·
                refine gk (.cons (.head) (.cons (.head) (.refl))) ?_
                refine wg_take_go (i := 10) rfl rfl rfl (ov_eqlb uI4 rfl rfl) rfl (by kernel_rfl) (by kernel_rfl) (by kernel_rfl) (by kernel_rfl) ?_
                refine wg_takep (i := 11) rfl (ov_pick_t rfl rfl) rfl rfl rfl (by kernel_rfl) (by kernel_rfl) (by kernel_rfl) rfl ?_
                refine wg_takep (i := 12) rfl (ov_assign rfl) rfl rfl rfl (by kernel_rfl) (by kernel_rfl) (by kernel_rfl) rfl ?_
                refine wg_done (by kernel_rfl) ?_
                refine ce_block ?_
                refine ce_then ?_
                refine cw_region ?_
                refine wl_v (ov_add (r := ((u + 1 : Nat) : Int)) rfl rfl rfl (by omega)) rfl rfl rfl ?_
                refine wl_v (ov_move rfl) rfl rfl rfl ?_
                refine wl_nil ?_
                exact fun ac_ w_ hs_ => hR1 (u + 1) (by omega) (by omega) ac_ w_ (hs_.weaken (.cons rfl (.cons rfl (.cons rfl (.cons rfl (.cons rfl (.cons rfl (.cons rfl (.cons rfl (.cons rfl (.cons rfl (.cons (congrArg (fun z => some (Value.bool z)) (by rw [fitTo_succ, b7, e1, decide_eq_true c37, decide_eq_true c41]; rfl)) (.cons rfl (.nil))))))))))))) (.cons (.head) (.cons (.head) (.refl))))
              ·
                refine gk (.cons (.head) (.cons (.head) (.refl))) ?_
                refine wg_take_go (i := 10) rfl rfl rfl (ov_eqlb uI4 rfl rfl) rfl (by kernel_rfl) (by kernel_rfl) (by kernel_rfl) (by kernel_rfl) ?_
                refine wg_takep (i := 11) rfl (ov_pick_t rfl rfl) rfl rfl rfl (by kernel_rfl) (by kernel_rfl) (by kernel_rfl) rfl ?_
                refine wg_takep (i := 12) rfl (ov_assign rfl) rfl rfl rfl (by kernel_rfl) (by kernel_rfl) (by kernel_rfl) rfl ?_
                refine wg_done (by kernel_rfl) ?_
                refine ce_block ?_
                refine ce_then ?_
                refine cw_region ?_
                refine wl_v (ov_add (r := ((u + 1 : Nat) : Int)) rfl rfl rfl (by omega)) rfl rfl rfl ?_
                refine wl_v (ov_move rfl) rfl rfl rfl ?_
                refine wl_nil ?_
                exact fun ac_ w_ hs_ => hR1 (u + 1) (by omega) (by omega) ac_ w_ (hs_.weaken (.cons rfl (.cons rfl (.cons rfl (.cons rfl (.cons rfl (.cons rfl (.cons rfl (.cons rfl (.cons rfl (.cons rfl (.cons (congrArg (fun z => some (Value.bool z)) (by rw [fitTo_succ, b7, e1, decide_eq_true c37, decide_eq_false c41]; rfl)) (.cons rfl (.nil))))))))))))) (.cons (.head) (.cons (.head) (.refl))))
            ·
              refine gk (.cons (.head) (.cons (.head) (.refl))) ?_
              refine wg_one (i := 9) (by kernel_rfl) ?_
              refine go_rg rfl rfl rfl rfl (or_call (fv := []) (vs := [.agg #[.int .i64 (((m : Nat) : Int)), .slice Ah (nh) (ch)], .int .i64 ((ts.getD u 0)), .int .i64 (((v : Nat) : Int))]) (cs := []) en59 rfl rfl (call_v (fun w hw => has_c w ((m : Nat) : Int) Ah nh ch fs (ts.getD u 0) ((v : Nat) : Int) ((Holds.keepF hAh ((.drop (.drop .refl)))) w hw) eAh lAh (by omega)))) (kt_if rfl (fun c41 => ?_) (fun c41 => ?_))
              ·
                refine gk (.cons (.head) (.cons (.head) (.refl))) ?_
                refine wg_take_go (i := 10) rfl rfl rfl (ov_eqlb uI4 rfl rfl) rfl (by kernel_rfl) (by kernel_rfl) (by kernel_rfl) (by kernel_rfl) ?_
                refine wg_takep (i := 11) rfl (ov_pick_t rfl rfl) rfl rfl rfl (by kernel_rfl) (by kernel_rfl) (by kernel_rfl) rfl ?_
                refine wg_takep (i := 12) rfl (ov_assign rfl) rfl rfl rfl (by kernel_rfl) (by kernel_rfl) (by kernel_rfl) rfl ?_
                refine wg_done (by kernel_rfl) ?_
                refine ce_block ?_
                refine ce_then ?_
                refine cw_region ?_
                refine wl_v (ov_add (r := ((u + 1 : Nat) : Int)) rfl rfl rfl (by omega)) rfl rfl rfl ?_
                refine wl_v (ov_move rfl) rfl rfl rfl ?_
                refine wl_nil ?_
                exact fun ac_ w_ hs_ => hR1 (u + 1) (by omega) (by omega) ac_ w_ (hs_.weaken (.cons rfl (.cons rfl (.cons rfl (.cons rfl (.cons rfl (.cons rfl (.cons rfl (.cons rfl (.cons rfl (.cons rfl (.cons (congrArg (fun z => some (Value.bool z)) (by rw [fitTo_succ, b7, e1, decide_eq_false c37, decide_eq_true c41]; rfl)) (.cons rfl (.nil))))))))))))) (.cons (.head) (.cons (.head) (.refl))))
              ·
                refine gk (.cons (.head) (.cons (.head) (.refl))) ?_
                refine wg_take_go (i := 10) rfl rfl rfl (ov_eqlb uI4 rfl rfl) rfl (by kernel_rfl) (by kernel_rfl) (by kernel_rfl) (by kernel_rfl) ?_
                refine wg_takep (i := 11) rfl (ov_pick_t rfl rfl) rfl rfl rfl (by kernel_rfl) (by kernel_rfl) (by kernel_rfl) rfl ?_
                refine wg_takep (i := 12) rfl (ov_assign rfl) rfl rfl rfl (by kernel_rfl) (by kernel_rfl) (by kernel_rfl) rfl ?_
                refine wg_done (by kernel_rfl) ?_
                refine ce_block ?_
                refine ce_then ?_
                refine cw_region ?_
                refine wl_v (ov_add (r := ((u + 1 : Nat) : Int)) rfl rfl rfl (by omega)) rfl rfl rfl ?_
                refine wl_v (ov_move rfl) rfl rfl rfl ?_
                refine wl_nil ?_
                exact fun ac_ w_ hs_ => hR1 (u + 1) (by omega) (by omega) ac_ w_ (hs_.weaken (.cons rfl (.cons rfl (.cons rfl (.cons rfl (.cons rfl (.cons rfl (.cons rfl (.cons rfl (.cons rfl (.cons rfl (.cons (congrArg (fun z => some (Value.bool z)) (by rw [fitTo_succ, b7, e1, decide_eq_false c37, decide_eq_false c41]; rfl)) (.cons rfl (.nil))))))))))))) (.cons (.head) (.cons (.head) (.refl))))
          ·
            refine cw_draw mixO [] (.cons (.head) (.cons (.head) (.refl))) rfl ?_
            refine wg_takep (i := 0) rfl (ov_move rfl) rfl rfl rfl (by kernel_rfl) (by kernel_rfl) (by kernel_rfl) rfl ?_
            refine wg_takep (i := 1) rfl (ov_move rfl) rfl rfl rfl (by kernel_rfl) (by kernel_rfl) (by kernel_rfl) rfl ?_
            refine wg_take_not (i := 2) rfl rfl rfl rfl rfl (by kernel_rfl) (by kernel_rfl) (by kernel_rfl) (by kernel_rfl) ?_
            refine wg_take_not (i := 3) rfl rfl rfl rfl rfl (by kernel_rfl) (by kernel_rfl) (by kernel_rfl) (by kernel_rfl) ?_
            refine wg_take_not (i := 4) rfl rfl rfl rfl rfl (by kernel_rfl) (by kernel_rfl) (by kernel_rfl) (by kernel_rfl) ?_
            refine wg_take_not (i := 5) rfl rfl rfl rfl rfl (by kernel_rfl) (by kernel_rfl) (by kernel_rfl) (by kernel_rfl) ?_
            refine wg_take_not (i := 6) rfl rfl rfl rfl rfl (by kernel_rfl) (by kernel_rfl) (by kernel_rfl) (by kernel_rfl) ?_
            refine wg_take_not (i := 7) rfl rfl rfl rfl rfl (by kernel_rfl) (by kernel_rfl) (by kernel_rfl) (by kernel_rfl) ?_
            refine wg_take_not (i := 8) rfl rfl rfl rfl rfl (by kernel_rfl) (by kernel_rfl) (by kernel_rfl) (by kernel_rfl) ?_
            refine wg_take_not (i := 9) rfl rfl rfl rfl rfl (by kernel_rfl) (by kernel_rfl) (by kernel_rfl) (by kernel_rfl) ?_
            refine wg_take_not (i := 10) rfl rfl rfl rfl rfl (by kernel_rfl) (by kernel_rfl) (by kernel_rfl) (by kernel_rfl) ?_
            refine wg_takep (i := 11) rfl (ov_pick_f rfl rfl) rfl rfl rfl (by kernel_rfl) (by kernel_rfl) (by kernel_rfl) rfl ?_
            refine wg_takep (i := 12) rfl (ov_assign rfl) rfl rfl rfl (by kernel_rfl) (by kernel_rfl) (by kernel_rfl) rfl ?_
            refine wg_done (by kernel_rfl) ?_
            refine ce_block ?_
            refine ce_then ?_
            refine cw_region ?_
            refine wl_v (ov_add (r := ((u + 1 : Nat) : Int)) rfl rfl rfl (by omega)) rfl rfl rfl ?_
            refine wl_v (ov_move rfl) rfl rfl rfl ?_
            refine wl_nil ?_
            exact fun ac_ w_ hs_ => hR1 (u + 1) (by omega) (by omega) ac_ w_ (hs_.weaken (.cons rfl (.cons rfl (.cons rfl (.cons rfl (.cons rfl (.cons rfl (.cons rfl (.cons rfl (.cons rfl (.cons rfl (.cons (congrArg (fun z => some (Value.bool z)) (by rw [fitTo_succ, b7]; rfl)) (.cons rfl (.nil))))))))))))) (.cons (.head) (.cons (.head) (.refl))))
        ·
          refine wl_nil ?_
          refine ce_then ?_
          refine cw_seq ?_
          refine cw_false rfl ?_
          refine cw_exit ?_
          refine ce_then_exit ?_
          refine ce_then_exit ?_
          refine ce_hit ?_
          refine ce_then ?_
          refine cw_seq ?_
          refine cw_seq ?_
          refine cw_region ?_
          refine wl_v (ov_move rfl) rfl rfl rfl ?_
          refine wl_if (OpV.dec (ov_not rfl)) rfl rfl rfl (fun c46 => ?_) (fun c46 => ?_)
          ·
            refine wl_nil ?_
            refine ce_then ?_
            refine cw_true rfl ?_
            refine cw_exit ?_
            refine ce_then_exit ?_
            refine ce_hit ?_
            refine ce_then ?_
            refine cw_region ?_
            refine wl_v (ov_add (r := ((v + 1 : Nat) : Int)) rfl rfl rfl (by omega)) rfl rfl rfl ?_
            refine wl_v (ov_move rfl) rfl rfl rfl ?_
            refine wl_nil ?_
            exact fun ac_ w_ hs_ => hR0 (v + 1) A3 c3 ⟨by omega, hw2, (fun j hj => by rcases Nat.lt_succ_iff_lt_or_eq.1 hj with h | rfl; exact hw3 j h; exact if_neg (fun hq => by rw [e1, show nt = u from by omega] at hq; simp [hq] at c46))⟩ (by omega) ac_ w_ (hs_.weaken (.cons rfl (.cons rfl (.cons rfl (.cons rfl (.cons rfl (.cons rfl (.cons rfl (.nil)))))))) (.cons (.head) (.cons (.head) (.refl))))
          ·
            have hfit : fitTo es fs ts ((v : Nat) : Int) ts.length = true := by rw [e1, show nt = u from by omega]; simpa using c46
            refine wl_nil ?_
            refine ce_then ?_
            refine cw_false rfl ?_
            refine cw_skip ?_
            refine ce_then ?_
            refine cw_seq ?_
            refine cw_region ?_
            refine wl_v (ov_load tI31 (holds_blk (List.Mem.head _)) rfl rfl) rfl rfl rfl ?_
            refine wl_v (ov_move rfl) rfl rfl rfl ?_
            refine wl_r (or_buildSlice (e := 3) (size := 1) (is := [0]) (vs := [.int .i64 (((v : Nat) : Int))]) (cs := cells fI ([((v : Nat) : Int)])) rfl rfl rfl (by decide) (fun _ => by kernel_rfl)) rfl rfl (kt1 rfl (fun g49 => ?_))
            refine wl_r (or_append (c2 := 1) sI31 tI3 rfl (by decide) rfl rfl (.tail (.tail .head)) (holds_row (List.Mem.head _)) (by rw [cells_length fI_len]; try simp) (one_cells fI_one _) cells_append (by omega) (by omega)) rfl rfl (kt2p rfl (fun A50 c50 h50 => ?_))
            refine wl_r0 (or_store_blk (vs := [.slice A50 (nt + 1) (c50)]) (cs' := [.slice A50 (nt + 1) (c50)]) (.tail (.tail .head)) tI31 rfl rfl rfl rfl (Nat.le_of_ble_eq_true rfl) rfl) rfl rfl (kn0 ?_)
            refine wl_nil ?_
            refine ce_then ?_
            refine cw_seq ?_
            refine cw_seq ?_
            refine cw_region ?_
            refine wl_v (ov_load tI118 (Holds.keepF hgw ((.drop (.drop (.drop .refl))))) rfl rfl) rfl rfl rfl ?_
            refine wl_r (or_call (fv := []) (vs := []) (cs := [elp (some ⟨gt, 0, none⟩) (0), elp (some ⟨gg, 0, none⟩) (0), elp (some ⟨gh, 0, none⟩) (0), elp (some ⟨gw, 0, none⟩) (0)]) en129 rfl rfl (call_o (.cons (.head) (.cons (.head) (.cons (.head) (.refl)))) (fun w hw => mapped1_c w _ _ _ gg gh gw gt A50 (nt + 1) c50 (ts ++ ([((v : Nat) : Int)])) m Ag ng cg es Ah nh ch fs (Holds.keepF hgg ((.drop .refl))) (Holds.keepF hgh ((.drop .refl))) (Holds.keepF hgw ((.drop .refl))) h50 (by rw [List.length_append, e1]; rfl) (Holds.keepF hAg ((.drop .refl))) (by first | rfl | assumption | (simp; done) | (simp; omega)) lAg (Holds.keepF hAh ((.drop .refl))) (by first | rfl | assumption | (simp; done) | (simp; omega)) lAh (by first | assumption | omega | (simp; omega)) (by first | assumption | omega | (simp; omega)) (by first | assumption | omega | (simp; omega)) (ho.snoc (by omega) (fit_iff.1 hfit).1) hw))) rfl rfl (kt3p rfl (fun A2_52 c2_52 rs_52 h_52 => ?_))
            refine wl_nil ?_
            refine ce_then ?_
            refine ct_bool (i := 52) rfl (fun b52 => ?_) (fun b52 => ?_)
            ·
              obtain ⟨x, hx⟩ := Option.isSome_iff_exists.1 b52
              have hz : mapI es fs m (m - nt) ts = some x := by rw [show m - nt = (m - (nt + 1)) + 1 from by omega, mapI]; exact fsome_found (w := v) (by omega) (by rw [if_pos hfit]; exact hx) hw3
              refine cw_true rfl ?_
              refine cw_seq ?_
              refine cw_region ?_
              refine wl_v (ov_assign rfl) rfl rfl rfl ?_
              refine wl_nil ?_
              refine ce_then ?_
              refine cw_ret ?_
              refine ce_then_ret ?_
              refine ce_block_ret ?_
              refine ce_then_ret ?_
              refine ce_then_ret ?_
              refine ce_block_ret ?_
              refine ce_then_ret ?_
              refine ce_results (v := .bool true) (res1 rfl (rv_t rfl)) (fun w' hw => ?_)
              exact ⟨A2_52, c2_52, rs_52, ⟨by rw [h_52.1, hx, hz]; rfl, h_52.2⟩, (by rw [hz]; rfl), ((.cons (.head) (.cons (.head) ((.drop .refl))) : Keep _ _).ss hw)⟩
            ·
              have hz0 : mapI es fs m (m - (nt + 1)) (ts ++ [((v : Nat) : Int)]) = none := by simpa using b52
              have hrs : rs_52 = ts ++ [((v : Nat) : Int)] := by rw [h_52.1, hz0]; rfl
              have hrl : rs_52.length = nt + 1 := by rw [hrs, List.length_append, e1]; rfl
              refine cw_false rfl ?_
              refine cw_skip ?_
              refine ce_then ?_
              refine cw_region ?_
              refine wl_v (ov_load tI31 (holds_blk (List.Mem.head _)) rfl rfl) rfl rfl rfl ?_
              refine wl_v (ov_move rfl) rfl rfl rfl ?_
              refine wl_v (ov_slice_h (h := nt) sI31 tI3 rfl rfl (by omega)) rfl rfl rfl ?_
              refine ct_first (k := nt) (.cons (.tail .head) (.cons (.head) (.cons (.head) (.refl)))) fI_len (by omega) ?_
              refine wl_r0 (or_store_blk (vs := [.slice A2_52 (nt) (c2_52)]) (cs' := [.slice A2_52 (nt) (c2_52)]) (.tail .head) tI31 rfl rfl rfl rfl (Nat.le_of_ble_eq_true rfl) rfl) rfl rfl (kn0 ?_)
              refine wl_nil ?_
              refine ce_block ?_
              refine ce_then ?_
              refine cw_region ?_
              refine wl_v (ov_add (r := ((v + 1 : Nat) : Int)) rfl rfl rfl (by omega)) rfl rfl rfl ?_
              refine wl_v (ov_move rfl) rfl rfl rfl ?_
              refine wl_nil ?_
              exact fun ac_ w_ hs_ => hR0 (v + 1) A2_52 c2_52 ⟨by omega, by omega, (fun j hj => by rcases Nat.lt_succ_iff_lt_or_eq.1 hj with h | rfl; exact hw3 j h; exact (if_pos hfit).trans hz0)⟩ (by omega) ac_ w_ (hs_.weaken (.cons rfl (.cons rfl (.cons rfl (.cons rfl (.cons rfl (.cons rfl (.cons rfl (.nil)))))))) (.cons (.head) (.consE (show row 3 1 A2_52 (nt) (c2_52) (cells fI (rs_52.take nt)) = row 3 1 A2_52 (nt) (c2_52) (cells fI ts) by rw [hrs, show (ts ++ [((v : Nat) : Int)]).take nt = ts from by rw [← e1]; exact List.take_left]) (.head) ((.drop .refl)))))
    ·
      refine wl_nil ?_
      refine ce_then ?_
      refine cw_seq ?_
      refine cw_false rfl ?_
      refine cw_exit ?_
      refine ce_then_exit ?_
      refine ce_then_exit ?_
      refine ce_hit ?_
      refine ce_then ?_
      refine cw_seq ?_
      refine cw_region ?_
      refine wl_v (ov_assign rfl) rfl rfl rfl ?_
      refine wl_nil ?_
      refine ce_then ?_
      refine cw_ret ?_
      refine ce_results (v := .bool false) (res1 rfl (rv_t rfl)) (fun w' hw => ?_)
      exact ⟨A3, c3, ts, ⟨by rw [show mapI es fs m (m - nt) ts = none from by rw [show m - nt = (m - (nt + 1)) + 1 from by omega, mapI]; exact fsome_none (fun j hj => hw3 j (by omega))]; rfl, by omega⟩, (by rw [show mapI es fs m (m - nt) ts = none from by rw [show m - nt = (m - (nt + 1)) + 1 from by omega, mapI]; exact fsome_none (fun j hj => hw3 j (by omega))]; rfl), ((.consE (show blk gt [.slice A3 (nt) (c3)] 31 = blk gt [.slice A3 (ts.length) (c3)] 31 by rw [e1]) (.head) (.consE (show row 3 1 A3 (nt) (c3) (cells fI ts) = row 3 1 A3 (ts.length) (c3) (cells fI ts) by rw [e1]) (.head) (.refl)) : Keep _ _).ss hw)⟩
termination_by m - nt
decreasing_by all_goals omega
set_option maxRecDepth 100000 in
theorem mapped_c (w : World) (m : Nat) (A : Option Addr) (n : Nat) (c : Nat) (es : List (Int × Int)) (m2 : Nat) (A2 : Option Addr) (n2 : Nat) (c2 : Nat) (fs : List (Int × Int)) (hA : At w A (cells fE es)) (eA : es.length = n) (lA : n ≤ c) (hA2 : At w A2 (cells fE fs)) (eA2 : fs.length = n2) (lA2 : n2 ≤ c2) (he : m = m2) (hg : Gr m es) (hf : Gr m fs) (hm : m ≤ 6) : Calls Try.prog 82 #[.agg #[.int .i64 (((m : Nat) : Int)), .slice A (n) (c)], .agg #[.int .i64 (((m2 : Nat) : Int)), .slice A2 (n2) (c2)]] w (Ret fun rv w' => ∃ A3 c3 c4, (((mapI es fs m m []).getD []).length ≤ c3) ∧ rv = .tuple #[.slice A3 (((mapI es fs m m []).getD []).length) (c3), .bool ((mapI es fs m m []).isSome)] ∧ New w w' [row 3 1 A3 (((mapI es fs m m []).getD []).length) (c4) (cells fI ((mapI es fs m m []).getD []))]) := by
  have oA := hA.atB
  subst eA
  have oA2 := hA2.atB
  subst eA2
  subst he
  have hel := hg.len (by omega)
  have hfl := hf.len (by omega)
  refine fn_enter (args := [.agg #[.int .i64 (((m : Nat) : Int)), .slice A (es.length) (c)], .agg #[.int .i64 (((m : Nat) : Int)), .slice A2 (fs.length) (c2)]]) Try.func82 rfl Try.ntmps82 rfl (SS.start w) ?_
  refine cw_seq ?_
  refine cw_region ?_
  refine wl_r (or_box rfl rfl) rfl rfl (kt1 rfl (fun g2 => ?_))
  refine wl_r (or_box rfl rfl) rfl rfl (kt1 rfl (fun g3 => ?_))
  refine wl_v (ov_assign rfl) rfl rfl rfl ?_
  refine wl_v (ov_assign rfl) rfl rfl rfl ?_
  refine wl_nil ?_
  refine ce_then ?_
  refine cw_seq ?_
  refine cw_region ?_
  refine wl_r (or_alloc tI31 rfl) rfl rfl (kt1 rfl (fun g6 => ?_))
  refine wl_nil ?_
  refine ce_then ?_
  refine cw_seq ?_
  refine cw_region ?_
  refine wl_r (or_alloc tI118 rfl) rfl rfl (kt1 rfl (fun g7 => ?_))
  refine wl_nil ?_
  refine ce_then ?_
  refine cw_seq ?_
  refine ct_none fI 3 1 ?_
  refine cw_region ?_
  refine wl_v (ov_makeFunc (vs := #[elp (some ⟨g6, 0, none⟩) (0), elp (some ⟨g2, 0, none⟩) (0), elp (some ⟨g3, 0, none⟩) (0), elp (some ⟨g7, 0, none⟩) (0)]) rfl) rfl rfl rfl ?_
  refine wl_r0 (or_store_blk (vs := [.func (.func 129) #[] #[elp (some ⟨g6, 0, none⟩) (0), elp (some ⟨g2, 0, none⟩) (0), elp (some ⟨g3, 0, none⟩) (0), elp (some ⟨g7, 0, none⟩) (0)]]) (cs' := [.func (.func 129) #[] #[elp (some ⟨g6, 0, none⟩) (0), elp (some ⟨g2, 0, none⟩) (0), elp (some ⟨g3, 0, none⟩) (0), elp (some ⟨g7, 0, none⟩) (0)]]) (.tail .head) tI118 rfl rfl rfl rfl (Nat.le_of_ble_eq_true rfl) rfl) rfl rfl (kn0 ?_)
  refine wl_nil ?_
  refine ce_then ?_
  refine cw_seq ?_
  refine cw_seq ?_
  refine cw_region ?_
  refine wl_v (ov_load tI118 (holds_blk (List.Mem.head _)) rfl rfl) rfl rfl rfl ?_
  refine wl_r (or_call (fv := []) (vs := []) (cs := [elp (some ⟨g6, 0, none⟩) (0), elp (some ⟨g2, 0, none⟩) (0), elp (some ⟨g3, 0, none⟩) (0), elp (some ⟨g7, 0, none⟩) (0)]) en129 rfl rfl (call_o (.cons (.tail (.tail .head)) (.cons (.tail .head) (.cons (.head) (.cons (.head) (.cons (.head) (.nil)))))) (fun w hw => mapped1_c w _ _ _ g2 g3 g7 g6 none 0 0 ([]) m A es.length c es A2 fs.length c2 fs (holds_blk (List.Mem.tail _ (List.Mem.tail _ (List.Mem.head _)))) (holds_blk (List.Mem.tail _ (List.Mem.head _))) (holds_blk (List.Mem.head _)) (Nat.le_refl _) rfl (holds_old oA) (by first | rfl | assumption | (simp; done) | (simp; omega)) lA (holds_old oA2) (by first | rfl | assumption | (simp; done) | (simp; omega)) lA2 (by first | assumption | omega | (simp; omega)) (by first | assumption | omega | (simp; omega)) (by first | assumption | omega | (simp; omega)) (okT_nil _) hw))) rfl rfl (kt3p rfl (fun A2_10 c2_10 rs_10 h_10 => ?_))
  refine wl_if (OpV.dec (ov_not rfl)) rfl rfl rfl (fun c11 => ?_) (fun c11 => ?_)
  ·
    have hn : mapI es fs m m [] = none := by simpa using c11
    refine ct_none fI 3 1 ?_
    refine wl_nil ?_
    refine ce_then ?_
    refine cw_true rfl ?_
    refine cw_seq ?_
    refine cw_region ?_
    refine wl_v (ov_assign rfl) rfl rfl rfl ?_
    refine wl_v (ov_assign rfl) rfl rfl rfl ?_
    refine wl_nil ?_
    refine ce_then ?_
    refine cw_ret ?_
    refine ce_then_ret ?_
    refine ce_results (v := .tuple #[.slice none (0) (0), .bool false]) (res2 rfl (rv_t rfl) (rv_t rfl)) (fun w' hw => ?_)
    exact ⟨none, 0, 0, (by rw [hn]; exact Nat.le_refl _), (by rw [hn] <;> rfl), ((.consE (show row 3 1 none (0) (0) (cells fI ([])) = row 3 1 none (((mapI es fs m m []).getD []).length) (0) (cells fI ((mapI es fs m m []).getD [])) by rw [hn] <;> rfl) (.head) (.nil) : Keep _ _).ss hw).to_new⟩
  ·
    have hsm : (mapI es fs m m []).isSome = true := Option.isSome_iff_ne_none.2 (by simpa using c11)
    have hrs : rs_10 = (mapI es fs m m []).getD [] := h_10.1
    refine wl_nil ?_
    refine ce_then ?_
    refine cw_false rfl ?_
    refine cw_skip ?_
    refine ce_then ?_
    refine cw_seq ?_
    refine cw_region ?_
    refine wl_v (ov_load tI31 (holds_blk (List.Mem.head _)) rfl rfl) rfl rfl rfl ?_
    refine wl_r (or_call (fv := []) (vs := [.slice A2_10 (rs_10.length) (c2_10)]) (cs := []) en117 rfl rfl (call_x2 (fun w hw => cloneC_c w A2_10 rs_10.length c2_10 rs_10 ((holds_row (List.Mem.tail _ (List.Mem.head _))) w hw) rfl h_10.2 (by rw [hrs]; have := mapI_lenD (m := m) (es := es) (fs := fs); omega)))) rfl rfl (kt2p rfl (fun A2_13 c2_13 h_13 => ?_))
    refine wl_v (ov_assign rfl) rfl rfl rfl ?_
    refine wl_v (ov_assign rfl) rfl rfl rfl ?_
    refine wl_nil ?_
    refine ce_then ?_
    refine cw_ret ?_
    refine ce_results (v := .tuple #[.slice A2_13 (rs_10.length) (rs_10.length), .bool true]) (res2 rfl (rv_t rfl) (rv_t rfl)) (fun w' hw => ?_)
    exact ⟨A2_13, _, c2_13, (Nat.le_refl _), (by rw [hsm, hrs]), ((.consE (show row 3 1 A2_13 (rs_10.length) (c2_13) (cells fI rs_10) = row 3 1 A2_13 (((mapI es fs m m []).getD []).length) (c2_13) (cells fI ((mapI es fs m m []).getD [])) by rw [hrs]) (.head) (.nil) : Keep _ _).ss hw).to_new⟩
set_option maxRecDepth 100000 in
theorem isMap_c (w : World) (m : Nat) (A : Option Addr) (n : Nat) (c : Nat) (es : List (Int × Int)) (m2 : Nat) (A2 : Option Addr) (n2 : Nat) (c2 : Nat) (fs : List (Int × Int)) (A3 : Option Addr) (n3 : Nat) (c3 : Nat) (ts : List (Int)) (hA : At w A (cells fE es)) (eA : es.length = n) (lA : n ≤ c) (hA2 : At w A2 (cells fE fs)) (eA2 : fs.length = n2) (lA2 : n2 ≤ c2) (hA3 : At w A3 (cells fI ts)) (eA3 : ts.length = n3) (lA3 : n3 ≤ c3) (he : m = m2) (hg : Gr m es) (hf : Gr m fs) (hm : m ≤ 6) (hl : ts.length = m) : Calls Try.prog 132 #[.agg #[.int .i64 (((m : Nat) : Int)), .slice A (n) (c)], .agg #[.int .i64 (((m2 : Nat) : Int)), .slice A2 (n2) (c2)], .slice A3 (n3) (c3)] w (Ret fun rv w' => rv = .bool (decide (isMapP es fs ts)) ∧ New w w' []) := by
  have oA := hA.atB
  subst eA
  have oA2 := hA2.atB
  subst eA2
  have oA3 := hA3.atB
  subst eA3
  subst he
  have hel := hg.len (by omega)
  have hfl := hf.len (by omega)
  refine fn_enter (args := [.agg #[.int .i64 (((m : Nat) : Int)), .slice A (es.length) (c)], .agg #[.int .i64 (((m : Nat) : Int)), .slice A2 (fs.length) (c2)], .slice A3 (ts.length) (c3)]) Try.func132 rfl Try.ntmps132 rfl (SS.start w) ?_
  refine cw_seq ?_
  refine cw_region ?_
  refine wl_r (or_box rfl rfl) rfl rfl (kt1 rfl (fun g3 => ?_))
  refine wl_r (or_box rfl rfl) rfl rfl (kt1 rfl (fun g4 => ?_))
  refine wl_v (ov_assign rfl) rfl rfl rfl ?_
  refine wl_nil ?_
  refine ce_then ?_
  refine cw_seq ?_
  refine cw_seq ?_
  refine cw_region ?_
  refine wl_v (ov_assign rfl) rfl rfl rfl ?_
  refine wl_nil ?_
  refine ce_then ?_
  refine cw_block ?_
  refine cw_loop1 (fun (k : Nat) => [(2, .slice A3 (ts.length) (c3)), (3, elp (some ⟨g3, 0, none⟩) (0)), (4, elp (some ⟨g4, 0, none⟩) (0)), (7, .int .i64 (((k : Nat) : Int)))]) (fun (k : Nat) => [blk g4 [.int .i64 (((m : Nat) : Int)), .slice A2 (fs.length) (c2)] 25, blk g3 [.int .i64 (((m : Nat) : Int)), .slice A (es.length) (c)] 25]) (fun (k : Nat) => k ≤ es.length ∧ ∀ e : Ed, e ∈ es.take k → hasE fs (ts.getD e.1.toNat 0) (ts.getD e.2.toNat 0)) (fun (k : Nat) => es.length - k) 0 ⟨by omega, by simp⟩ (.cons rfl (.cons rfl (.cons rfl (.cons (congrArg (fun z => some (Value.int .i64 z)) (show 0 = ((0 : Nat) : Int) by first | omega | rfl | (simp; done))) (.nil))))) (.cons (.head) (.cons (.head) (.nil))) ?_
  intro R0 k hk hR0
  obtain ⟨hk1, hk2⟩ := hk
  refine cw_seq ?_
  refine cw_seq ?_
  refine cw_region ?_
  refine wl_v (ov_move rfl) rfl rfl rfl ?_
  refine wl_v (ov_fieldAddr fI25_1 some_lit rfl) rfl rfl rfl ?_
  refine wl_v (ov_load tI23 (holds_blk (List.Mem.tail _ (List.Mem.head _))) rfl rfl) rfl rfl rfl ?_
  refine wl_v (ov_len (sliceI_spec sI23) rfl) rfl rfl rfl ?_
  refine wl_if (ov_lss rfl rfl) rfl rfl rfl (fun c12 => ?_) (fun c12 => ?_)
  ·
    refine wl_nil ?_
    refine ce_then ?_
    refine cw_true rfl ?_
    refine cw_skip ?_
    refine ce_then ?_
    refine cw_seq ?_
    refine cw_block ?_
    refine cw_seq ?_
    refine cw_draw mixO [] (.cons (.head) (.cons (.head) (.nil))) rfl ?_
    have hek := hg.inr _ (getD_mem (xs := es) (k := k) (0, 0) (by omega))
    refine wg_take (i := 0) rfl (ov_loadAgg (vs := [.int .i64 (((m : Nat) : Int)), .slice A2 (fs.length) (c2)]) tI25 (holds_blk (List.Mem.head _)) rfl some_lit rfl rfl) rfl rfl rfl (by kernel_rfl) (by kernel_rfl) (by kernel_rfl) (by kernel_rfl) ?_
    refine wg_takep (i := 1) rfl (ov_move rfl) rfl rfl rfl (by kernel_rfl) (by kernel_rfl) (by kernel_rfl) rfl ?_
    refine wg_take (i := 2) rfl (ov_fieldAddr fI25_1 some_lit rfl) rfl rfl rfl (by kernel_rfl) (by kernel_rfl) (by kernel_rfl) (by kernel_rfl) ?_
    refine wg_take (i := 3) rfl (ov_load tI23 (holds_blk (List.Mem.tail _ (List.Mem.head _))) rfl rfl) rfl rfl rfl (by kernel_rfl) (by kernel_rfl) (by kernel_rfl) (by kernel_rfl) ?_
    refine wg_takep (i := 4) rfl (ov_move rfl) rfl rfl rfl (by kernel_rfl) (by kernel_rfl) (by kernel_rfl) rfl ?_
    refine wg_take (i := 5) rfl (ov_index (k := k) (c := c) sI23 tI43 rfl rfl (some_holds (q := k * 2) (holds_old oA) (by rw [cells_length fE_len]; have hlt : k < es.length := (by omega); omega)) (show k < es.length from (by omega))) rfl rfl rfl (by kernel_rfl) (by kernel_rfl) (by kernel_rfl) (by kernel_rfl) ?_
    refine wg_take (i := 6) rfl (ov_fieldAddr fI43_0 (some_holds (q := k * 2) (holds_old oA) (by rw [cells_length fE_len]; have hlt : k < es.length := (by omega); omega)) rfl) rfl rfl rfl (by kernel_rfl) (by kernel_rfl) (by kernel_rfl) (by kernel_rfl) ?_
    refine wg_take (i := 7) rfl (ov_load tI3 (holds_old oA) rfl (get_fE0 (show k < es.length from (by omega)))) rfl rfl rfl (by kernel_rfl) (by kernel_rfl) (by kernel_rfl) (by kernel_rfl) ?_
    refine wg_take (i := 8) rfl (ov_indexg sI31 tI3 rfl rfl (some_holds (q := (((es.getD k (0, 0)).1).toNat) * 1) (holds_old oA3) (by rw [cells_length fI_len]; have hlt : ((es.getD k (0, 0)).1).toNat < ts.length := (by omega); omega)) (by omega) (show ((es.getD k (0, 0)).1).toNat < ts.length from (by omega))) rfl rfl rfl (by kernel_rfl) (by kernel_rfl) (by kernel_rfl) (by kernel_rfl) ?_
    refine wg_take (i := 9) rfl (ov_load tI3 (holds_old oA3) rfl (get_fI (show ((es.getD k (0, 0)).1).toNat < ts.length from (by omega)))) rfl rfl rfl (by kernel_rfl) (by kernel_rfl) (by kernel_rfl) (by kernel_rfl) ?_
    refine wg_takep (i := 10) rfl (ov_move rfl) rfl rfl rfl (by kernel_rfl) (by kernel_rfl) (by kernel_rfl) rfl ?_
    refine wg_take (i := 11) rfl (ov_fieldAddr fI25_1 some_lit rfl) rfl rfl rfl (by kernel_rfl) (by kernel_rfl) (by kernel_rfl) (by kernel_rfl) ?_
    refine wg_take (i := 12) rfl (ov_load tI23 (holds_blk (List.Mem.tail _ (List.Mem.head _))) rfl rfl) rfl rfl rfl (by kernel_rfl) (by kernel_rfl) (by kernel_rfl) (by kernel_rfl) ?_
    refine wg_takep (i := 13) rfl (ov_move rfl) rfl rfl rfl (by kernel_rfl) (by kernel_rfl) (by kernel_rfl) rfl ?_
    refine wg_take (i := 14) rfl (ov_index (k := k) (c := c) sI23 tI43 rfl rfl (some_holds (q := k * 2) (holds_old oA) (by rw [cells_length fE_len]; have hlt : k < es.length := (by omega); omega)) (show k < es.length from (by omega))) rfl rfl rfl (by kernel_rfl) (by kernel_rfl) (by kernel_rfl) (by kernel_rfl) ?_
    refine wg_take (i := 15) rfl (ov_fieldAddr fI43_1 (some_holds (q := k * 2) (holds_old oA) (by rw [cells_length fE_len]; have hlt : k < es.length := (by omega); omega)) rfl) rfl rfl rfl (by kernel_rfl) (by kernel_rfl) (by kernel_rfl) (by kernel_rfl) ?_
    refine wg_take (i := 16) rfl (ov_load tI3 (holds_old oA) rfl (get_fE1 (show k < es.length from (by omega)))) rfl rfl rfl (by kernel_rfl) (by kernel_rfl) (by kernel_rfl) (by kernel_rfl) ?_
    refine wg_take (i := 17) rfl (ov_indexg sI31 tI3 rfl rfl (some_holds (q := (((es.getD k (0, 0)).2).toNat) * 1) (holds_old oA3) (by rw [cells_length fI_len]; have hlt : ((es.getD k (0, 0)).2).toNat < ts.length := (by omega); omega)) (by omega) (show ((es.getD k (0, 0)).2).toNat < ts.length from (by omega))) rfl rfl rfl (by kernel_rfl) (by kernel_rfl) (by kernel_rfl) (by kernel_rfl) ?_
    refine wg_take (i := 18) rfl (ov_load tI3 (holds_old oA3) rfl (get_fI (show ((es.getD k (0, 0)).2).toNat < ts.length from (by omega)))) rfl rfl rfl (by kernel_rfl) (by kernel_rfl) (by kernel_rfl) (by kernel_rfl) ?_
    refine wg_one (i := 19) (by kernel_rfl) ?_
    refine go_r rfl rfl rfl rfl (or_call (fv := []) (vs := [.agg #[.int .i64 (((m : Nat) : Int)), .slice A2 (fs.length) (c2)], .int .i64 ((ts.getD (((es.getD k (0, 0)).1).toNat) 0)), .int .i64 ((ts.getD (((es.getD k (0, 0)).2).toNat) 0))]) (cs := []) en113 rfl rfl (call_v (fun w hw => hasEdge_c w ((m : Nat) : Int) A2 fs.length c2 fs (ts.getD (((es.getD k (0, 0)).1).toNat) 0) (ts.getD (((es.getD k (0, 0)).2).toNat) 0) ((holds_old oA2) w hw) rfl lA2 (by omega)))) (kt_if rfl (fun c34 => ?_) (fun c34 => ?_))
    ·
      refine gk (.cons (.head) (.cons (.head) (.nil))) ?_
      refine wg_takep (i := 20) rfl (ov_not rfl) rfl rfl rfl (by kernel_rfl) (by kernel_rfl) (by kernel_rfl) rfl ?_
      refine wg_done (by kernel_rfl) ?_
      refine ce_then ?_
      refine cw_false rfl ?_
      refine cw_skip ?_
      refine ce_block ?_
      refine ce_then ?_
      refine cw_region ?_
      refine wl_v (ov_move rfl) rfl rfl rfl ?_
      refine wl_v (ov_add (r := ((k + 1 : Nat) : Int)) rfl rfl rfl (by omega)) rfl rfl rfl ?_
      refine wl_v (ov_assign rfl) rfl rfl rfl ?_
      refine wl_nil ?_
      exact fun ac_ w_ hs_ => hR0 (k + 1) ⟨by omega, all_take_step (p := fun (e : Ed) => hasE fs (ts.getD e.1.toNat 0) (ts.getD e.2.toNat 0)) (0, 0) (by omega) hk2 c34⟩ (by omega) ac_ w_ (hs_.weaken (.cons rfl (.cons rfl (.cons rfl (.cons rfl (.nil))))) (.cons (.head) (.cons (.head) (.nil))))
    ·
      refine gk (.cons (.head) (.cons (.head) (.nil))) ?_
      refine wg_takep (i := 20) rfl (ov_not rfl) rfl rfl rfl (by kernel_rfl) (by kernel_rfl) (by kernel_rfl) rfl ?_
      refine wg_done (by kernel_rfl) ?_
      refine ce_then ?_
      refine cw_true rfl ?_
      refine cw_seq ?_
      refine cw_region ?_
      refine wl_v (ov_assign rfl) rfl rfl rfl ?_
      refine wl_nil ?_
      refine ce_then ?_
      refine cw_ret ?_
      refine ce_block_ret ?_
      refine ce_then_ret ?_
      refine ce_then_ret ?_
      refine ce_block_ret ?_
      refine ce_then_ret ?_
      refine ce_results (v := .bool false) (res1 rfl (rv_t rfl)) (fun w' hw => ?_)
      exact ⟨(bf (fun h => c34 (h.1 _ (getD_mem (xs := es) (k := k) (0, 0) (by omega))))), (Keep.nil.ss hw).to_new⟩
  ·
    refine wl_nil ?_
    refine ce_then ?_
    refine cw_false rfl ?_
    refine cw_exit ?_
    refine ce_then_exit ?_
    refine ce_then_exit ?_
    refine ce_hit ?_
    refine ce_then ?_
    refine cw_seq ?_
    refine cw_region ?_
    refine wl_v (ov_fieldAddr fI25_1 some_lit rfl) rfl rfl rfl ?_
    refine wl_v (ov_load tI23 (holds_blk (List.Mem.tail _ (List.Mem.head _))) rfl rfl) rfl rfl rfl ?_
    refine wl_v (ov_len (sliceI_spec sI23) rfl) rfl rfl rfl ?_
    refine wl_v (ov_fieldAddr fI25_1 some_lit rfl) rfl rfl rfl ?_
    refine wl_v (ov_load tI23 (holds_blk (List.Mem.head _)) rfl rfl) rfl rfl rfl ?_
    refine wl_v (ov_len (sliceI_spec sI23) rfl) rfl rfl rfl ?_
    refine wl_if (ov_eql rfl rfl) rfl rfl rfl (fun c42 => ?_) (fun c42 => ?_)
    ·
      refine wl_v (ov_assign rfl) rfl rfl rfl ?_
      refine wl_nil ?_
      refine ce_then ?_
      refine cw_ret ?_
      refine ce_results (v := .bool true) (res1 rfl (rv_t rfl)) (fun w' hw => ?_)
      exact ⟨(bt ⟨take_all (k := k) (by omega) hk2, by omega⟩), (Keep.nil.ss hw).to_new⟩
    ·
      refine wl_v (ov_assign rfl) rfl rfl rfl ?_
      refine wl_nil ?_
      refine ce_then ?_
      refine cw_ret ?_
      refine ce_results (v := .bool false) (res1 rfl (rv_t rfl)) (fun w' hw => ?_)
      exact ⟨(bf (fun h => c42 (by have := h.2; omega))), (Keep.nil.ss hw).to_new⟩
set_option maxRecDepth 100000 in
theorem findMap_c (w w0 : World) (Bd : Nat) (F : List Ent) (m : Nat) (A : Option Addr) (n : Nat) (c : Nat) (es : List (Int × Int)) (m2 : Nat) (A2 : Option Addr) (n2 : Nat) (c2 : Nat) (fs : List (Int × Int)) (A1 : Option Addr) (n1 : Nat) (c1 : Nat) (ts : List Int) (hA : Holds (SS w0 Bd F) A (cells fE es)) (eA : es.length = n) (lA : n ≤ c) (hA2 : Holds (SS w0 Bd F) A2 (cells fE fs)) (eA2 : fs.length = n2) (lA2 : n2 ≤ c2) (l1 : n1 ≤ c1) (e1 : ts.length = n1) (ho : OkT m ts) (he : m = m2) (hg : Gr m es) (hf : Gr m fs) (hm : m ≤ 6) (hss : SS w0 Bd ((row 3 1 A1 (n1) (c1) (cells fI ts)) :: F) w) : Calls Try.prog 84 #[.agg #[.int .i64 (((m : Nat) : Int)), .slice A (n) (c)], .agg #[.int .i64 (((m2 : Nat) : Int)), .slice A2 (n2) (c2)], .slice A1 (n1) (c1)] w (Ret fun rv w' => ∃ A2 c2 rs, ((∀ x, mapS es fs m (m - n1) ts = some x → rs = x) ∧ rs.length ≤ c2) ∧ rv = .tuple #[.slice A2 (rs.length) (c2), .bool ((mapS es fs m (m - n1) ts).isSome)] ∧ SS w0 Bd ((row 3 1 A2 (rs.length) (c2) (cells fI rs)) :: F) w') := by
  subst eA
  subst eA2
  subst he
  have hel := hg.len (by omega)
  have hfl := hf.len (by omega)
  have htl := ho.len
  refine fn_enter (args := [.agg #[.int .i64 (((m : Nat) : Int)), .slice A (es.length) (c)], .agg #[.int .i64 (((m : Nat) : Int)), .slice A2 (fs.length) (c2)], .slice A1 (n1) (c1)]) Try.func84 rfl Try.ntmps84 rfl hss ?_
  refine cw_seq ?_
  refine cw_region ?_
  refine wl_r (or_box rfl rfl) rfl rfl (kt1 rfl (fun g3 => ?_))
  refine wl_r (or_box rfl rfl) rfl rfl (kt1 rfl (fun g4 => ?_))
  refine wl_v (ov_assign rfl) rfl rfl rfl ?_
  refine wl_v (ov_assign rfl) rfl rfl rfl ?_
  refine wl_nil ?_
  refine ce_then ?_
  refine cw_seq ?_
  refine cw_seq ?_
  refine cw_region ?_
  refine wl_v (ov_move rfl) rfl rfl rfl ?_
  refine wl_v (ov_len (sliceI_spec sI31) rfl) rfl rfl rfl ?_
  refine wl_v (ov_fieldAddr fI25_0 some_lit rfl) rfl rfl rfl ?_
  refine wl_v (ov_load tI3 (holds_blk (List.Mem.tail _ (List.Mem.head _))) rfl rfl) rfl rfl rfl ?_
  refine wl_if (ov_eql rfl rfl) rfl rfl rfl (fun c15 => ?_) (fun c15 => ?_)
  ·
    have hz : mapS es fs m (m - n1) ts = if isMapP es fs ts then some ts else none := by rw [show m - n1 = 0 from by omega]; rfl
    refine wl_nil ?_
    refine ce_then ?_
    refine cw_true rfl ?_
    refine cw_seq ?_
    refine cw_region ?_
    refine wl_v (ov_move rfl) rfl rfl rfl ?_
    refine wl_v (ov_loadAgg (vs := [.int .i64 (((m : Nat) : Int)), .slice A (es.length) (c)]) tI25 (holds_blk (List.Mem.tail _ (List.Mem.head _))) rfl some_lit rfl rfl) rfl rfl rfl ?_
    refine wl_v (ov_loadAgg (vs := [.int .i64 (((m : Nat) : Int)), .slice A2 (fs.length) (c2)]) tI25 (holds_blk (List.Mem.head _)) rfl some_lit rfl rfl) rfl rfl rfl ?_
    refine wl_v (ov_move rfl) rfl rfl rfl ?_
    refine wl_r (or_call (fv := []) (vs := [.agg #[.int .i64 (((m : Nat) : Int)), .slice A (es.length) (c)], .agg #[.int .i64 (((m : Nat) : Int)), .slice A2 (fs.length) (c2)], .slice A1 (n1) (c1)]) (cs := []) en132 rfl rfl (call_v (fun w hw => isMap_c w m A es.length c es m A2 fs.length c2 fs A1 n1 c1 ts ((Holds.keepF hA ((.drop (.drop (.drop .refl))))) w hw) rfl lA ((Holds.keepF hA2 ((.drop (.drop (.drop .refl))))) w hw) rfl lA2 ((holds_row (List.Mem.tail _ (List.Mem.tail _ (List.Mem.head _)))) w hw) e1 l1 (by first | assumption | omega | (simp; omega)) (by first | assumption | omega | (simp; omega)) (by first | assumption | omega | (simp; omega)) (by first | assumption | omega | (simp; omega)) (by omega)))) rfl rfl (kt_if rfl (fun c20 => ?_) (fun c20 => ?_))
    ·
      refine wl_v (ov_assign rfl) rfl rfl rfl ?_
      refine wl_v (ov_assign rfl) rfl rfl rfl ?_
      refine wl_nil ?_
      refine ce_then ?_
      refine cw_ret ?_
      refine ce_then_ret ?_
      refine ce_results (v := .tuple #[.slice A1 (n1) (c1), .bool true]) (res2 rfl (rv_t rfl) (rv_t rfl)) (fun w' hw => ?_)
      exact ⟨A1, c1, ts, ⟨fun x hx => (by rw [hz, if_pos c20] at hx; injection hx), by omega⟩, (by rw [hz, if_pos c20, e1] <;> rfl), ((.consE (show row 3 1 A1 (n1) (c1) (cells fI ts) = row 3 1 A1 (ts.length) (c1) (cells fI ts) by rw [e1]) (.tail (.tail .head)) ((.drop (.drop .refl))) : Keep _ _).ss hw)⟩
    ·
      refine wl_v (ov_assign rfl) rfl rfl rfl ?_
      refine wl_v (ov_assign rfl) rfl rfl rfl ?_
      refine wl_nil ?_
      refine ce_then ?_
      refine cw_ret ?_
      refine ce_then_ret ?_
      refine ce_results (v := .tuple #[.slice A1 (n1) (c1), .bool false]) (res2 rfl (rv_t rfl) (rv_t rfl)) (fun w' hw => ?_)
      exact ⟨A1, c1, ts, ⟨fun x hx => (by rw [hz, if_neg c20] at hx; cases hx), by omega⟩, (by rw [hz, if_neg c20, e1] <;> rfl), ((.consE (show row 3 1 A1 (n1) (c1) (cells fI ts) = row 3 1 A1 (ts.length) (c1) (cells fI ts) by rw [e1]) (.tail (.tail .head)) ((.drop (.drop .refl))) : Keep _ _).ss hw)⟩
  ·
    refine wl_nil ?_
    refine ce_then ?_
    refine cw_false rfl ?_
    refine cw_skip ?_
    refine ce_then ?_
    refine cw_seq ?_
    refine cw_seq ?_
    refine cw_region ?_
    refine wl_v (ov_assign rfl) rfl rfl rfl ?_
    refine wl_nil ?_
    refine ce_then ?_
    refine cw_block ?_
    refine cw_loop1 (fun (v : Nat) => [(2, .slice A1 (n1) (c1)), (3, elp (some ⟨g3, 0, none⟩) (0)), (4, elp (some ⟨g4, 0, none⟩) (0)), (8, .int .i64 (((v : Nat) : Int)))]) (fun (v : Nat) => (blk g4 [.int .i64 (((m : Nat) : Int)), .slice A2 (fs.length) (c2)] 25) :: (blk g3 [.int .i64 (((m : Nat) : Int)), .slice A (es.length) (c)] 25) :: (row 3 1 A1 (n1) (c1) (cells fI ts)) :: F) (fun (v : Nat) => v ≤ m ∧ ∀ j, j < v → (if ((j : Nat) : Int) ∈ ts then none else mapS es fs m (m - (n1 + 1)) (ts ++ [((j : Nat) : Int)])) = none) (fun (v : Nat) => m - v) 0 ⟨by omega, fun j hj => absurd hj (Nat.not_lt_zero _)⟩ (.cons rfl (.cons rfl (.cons rfl (.cons (congrArg (fun z => some (Value.int .i64 z)) (show 0 = ((0 : Nat) : Int) by first | omega | rfl | (simp; done))) (.nil))))) (.cons (.head) (.cons (.head) (.cons (.head) (.refl)))) ?_
    intro R0 v hk hR0
    obtain ⟨hw1, hw2⟩ := hk
    refine cw_seq ?_
    refine cw_seq ?_
    refine cw_region ?_
    refine wl_v (ov_move rfl) rfl rfl rfl ?_
    refine wl_v (ov_fieldAddr fI25_0 some_lit rfl) rfl rfl rfl ?_
    refine wl_v (ov_load tI3 (holds_blk (List.Mem.head _)) rfl rfl) rfl rfl rfl ?_
    refine wl_if (ov_lss rfl rfl) rfl rfl rfl (fun c24 => ?_) (fun c24 => ?_)
    ·
      refine wl_nil ?_
      refine ce_then ?_
      refine cw_true rfl ?_
      refine cw_skip ?_
      refine ce_then ?_
      refine cw_seq ?_
      refine cw_block ?_
      refine cw_seq ?_
      refine cw_seq ?_
      refine cw_region ?_
      refine wl_v (ov_move rfl) rfl rfl rfl ?_
      refine wl_v (ov_move rfl) rfl rfl rfl ?_
      refine wl_r (or_call (fv := []) (vs := [.slice A1 (n1) (c1), .int .i64 (((v : Nat) : Int))]) (cs := []) en98 rfl rfl (call_v (fun w hw => hasInt_c w A1 n1 c1 ts ((v : Nat) : Int) ((holds_row (List.Mem.tail _ (List.Mem.tail _ (List.Mem.head _)))) w hw) e1 l1 (by omega)))) rfl rfl (kt_if rfl (fun c29 => ?_) (fun c29 => ?_))
      ·
        refine wl_nil ?_
        refine ce_then ?_
        refine cw_true rfl ?_
        refine cw_exit ?_
        refine ce_then_exit ?_
        refine ce_hit ?_
        refine ce_then ?_
        refine cw_region ?_
        refine wl_v (ov_move rfl) rfl rfl rfl ?_
        refine wl_v (ov_add (r := ((v + 1 : Nat) : Int)) rfl rfl rfl (by omega)) rfl rfl rfl ?_
        refine wl_v (ov_assign rfl) rfl rfl rfl ?_
        refine wl_nil ?_
        exact fun ac_ w_ hs_ => hR0 (v + 1) ⟨by omega, fun j hj => by rcases Nat.lt_succ_iff_lt_or_eq.1 hj with h | rfl; exact hw2 j h; exact if_pos c29⟩ (by omega) ac_ w_ (hs_.weaken (.cons rfl (.cons rfl (.cons rfl (.cons rfl (.nil))))) (.cons (.head) (.cons (.head) (.cons (.head) (.refl)))))
      ·
        refine wl_nil ?_
        refine ce_then ?_
        refine cw_false rfl ?_
        refine cw_skip ?_
        refine ce_then ?_
        refine cw_seq ?_
        refine cw_draw mixO [] (.cons (.head) (.cons (.head) (.cons (.head) (.refl)))) rfl ?_
        refine wg_take (i := 0) rfl (ov_loadAgg (vs := [.int .i64 (((m : Nat) : Int)), .slice A (es.length) (c)]) tI25 (holds_blk (List.Mem.tail _ (List.Mem.head _))) rfl some_lit rfl rfl) rfl rfl rfl (by kernel_rfl) (by kernel_rfl) (by kernel_rfl) (by kernel_rfl) ?_
        refine wg_take (i := 1) rfl (ov_loadAgg (vs := [.int .i64 (((m : Nat) : Int)), .slice A2 (fs.length) (c2)]) tI25 (holds_blk (List.Mem.head _)) rfl some_lit rfl rfl) rfl rfl rfl (by kernel_rfl) (by kernel_rfl) (by kernel_rfl) (by kernel_rfl) ?_
        refine wg_takep (i := 2) rfl (ov_move rfl) rfl rfl rfl (by kernel_rfl) (by kernel_rfl) (by kernel_rfl) rfl ?_
        refine wg_takep (i := 4) rfl (ov_move rfl) rfl rfl rfl (by kernel_rfl) (by kernel_rfl) (by kernel_rfl) rfl ?_
        refine wg_two (i := 3) (j := 5) (by kernel_rfl) ?_ ?_
        ·
          refine go_r rfl rfl rfl rfl (or_call (fv := []) (vs := [.slice A1 (n1) (c1)]) (cs := []) en99 rfl rfl (call_x2 (fun w hw => copyInts_c w A1 n1 c1 ts ((holds_row (List.Mem.tail _ (List.Mem.tail _ (List.Mem.head _)))) w hw) e1 l1 (by omega)))) (kt2p rfl (fun A2_34 c2_34 h_34 => ?_))
          refine gk (.cons (.tail .head) (.cons (.tail .head) (.cons (.tail .head) ((.drop .refl))))) ?_
          refine wg_one (i := 5) (by kernel_rfl) ?_
          refine go_r rfl rfl rfl rfl (or_buildSlice (e := 3) (size := 1) (is := [0]) (vs := [.int .i64 (((v : Nat) : Int))]) (cs := cells fI ([((v : Nat) : Int)])) rfl rfl rfl (by decide) (fun _ => by kernel_rfl)) (kt1 rfl (fun g36 => ?_))
          refine gk (.cons (.tail (.tail .head)) (.cons (.tail (.tail .head)) (.cons (.tail (.tail .head)) ((.drop (.drop .refl)))))) ?_
          refine wg_one (i := 6) (by kernel_rfl) ?_
          refine go_r rfl rfl rfl rfl (or_append (c2 := 1) sI31 tI3 rfl (by decide) rfl rfl (.tail .head) (holds_row (List.Mem.head _)) (by rw [cells_length fI_len]; try simp) (one_cells fI_one _) cells_append (by omega) (by omega)) (kt2p rfl (fun A37 c37 h37 => ?_))
          refine gk (.cons (.tail (.tail .head)) (.cons (.tail (.tail .head)) (.cons (.tail (.tail .head)) ((.drop (.drop .refl)))))) ?_
          refine wg_one (i := 7) (by kernel_rfl) ?_
          refine go_r rfl rfl rfl rfl (or_call (fv := []) (vs := [.agg #[.int .i64 (((m : Nat) : Int)), .slice A (es.length) (c)], .agg #[.int .i64 (((m : Nat) : Int)), .slice A2 (fs.length) (c2)], .slice A37 (n1 + 1) (c37)]) (cs := []) en84 rfl rfl (call_o (.cons (.head) (.cons (.head) (.cons (.head) (.cons (.head) (.cons (.head) (.refl)))))) (fun w hw => findMap_c w _ _ _ m A es.length c es m A2 fs.length c2 fs A37 (n1 + 1) c37 (ts ++ ([((v : Nat) : Int)])) (Holds.keepF hA ((.drop (.drop (.drop (.drop .refl)))))) (by first | rfl | assumption | (simp; done) | (simp; omega)) lA (Holds.keepF hA2 ((.drop (.drop (.drop (.drop .refl)))))) (by first | rfl | assumption | (simp; done) | (simp; omega)) lA2 h37 (by rw [List.length_append, e1]; rfl) (ho.snoc (by omega) c29) (by first | assumption | omega | (simp; omega)) (by first | assumption | omega | (simp; omega)) (by first | assumption | omega | (simp; omega)) (by first | assumption | omega | (simp; omega)) hw))) (kt3p rfl (fun A2_38 c2_38 rs_38 h_38 => ?_))
          refine gk (.cons (.tail (.tail .head)) (.cons (.tail (.tail .head)) (.cons (.tail (.tail .head)) ((.drop (.drop .refl)))))) ?_
          refine wg_takep (i := 8) rfl (ov_move rfl) rfl rfl rfl (by kernel_rfl) (by kernel_rfl) (by kernel_rfl) rfl ?_
          refine wg_takep (i := 9) rfl (ov_extract rfl rfl) rfl rfl rfl (by kernel_rfl) (by kernel_rfl) (by kernel_rfl) rfl ?_
          refine wg_takep (i := 10) rfl (ov_extract rfl rfl) rfl rfl rfl (by kernel_rfl) (by kernel_rfl) (by kernel_rfl) rfl ?_
          refine wg_takep (i := 11) rfl (ov_assign rfl) rfl rfl rfl (by kernel_rfl) (by kernel_rfl) (by kernel_rfl) rfl ?_
          refine wg_takep (i := 12) rfl (ov_assign rfl) rfl rfl rfl (by kernel_rfl) (by kernel_rfl) (by kernel_rfl) rfl ?_
          refine wg_done (by kernel_rfl) ?_
          refine ce_then ?_
          refine cw_seq ?_
          refine cw_region ?_
          refine wl_v (ov_move rfl) rfl rfl rfl ?_
          refine wl_nil ?_
          refine ce_then ?_
          refine ct_bool (i := 41) rfl (fun b41 => ?_) (fun b41 => ?_)
          ·
            obtain ⟨x, hx⟩ := Option.isSome_iff_exists.1 b41
            have hz : mapS es fs m (m - n1) ts = some x := by rw [show m - n1 = (m - (n1 + 1)) + 1 from by omega, mapS]; exact fsome_found (w := v) (by omega) (by rw [if_neg c29]; exact hx) hw2
            refine cw_true rfl ?_
            refine cw_seq ?_
            refine cw_region ?_
            refine wl_v (ov_move rfl) rfl rfl rfl ?_
            refine wl_v (ov_assign rfl) rfl rfl rfl ?_
            refine wl_v (ov_assign rfl) rfl rfl rfl ?_
            refine wl_nil ?_
            refine ce_then ?_
            refine cw_ret ?_
            refine ce_block_ret ?_
            refine ce_then_ret ?_
            refine ce_then_ret ?_
            refine ce_block_ret ?_
            refine ce_then_ret ?_
            refine ce_results (v := .tuple #[.slice A2_38 (rs_38.length) (c2_38), .bool true]) (res2 rfl (rv_t rfl) (rv_t rfl)) (fun w' hw => ?_)
            exact ⟨A2_38, c2_38, rs_38, ⟨fun y hy => h_38.1 y (by rw [hx, ← hy, hz]), h_38.2⟩, (by rw [hz] <;> rfl), ((.cons (.head) ((.drop (.drop (.drop (.drop .refl))))) : Keep _ _).ss hw)⟩
          ·
            refine cw_false rfl ?_
            refine cw_skip ?_
            refine ce_block ?_
            refine ce_then ?_
            refine cw_region ?_
            refine wl_v (ov_move rfl) rfl rfl rfl ?_
            refine wl_v (ov_add (r := ((v + 1 : Nat) : Int)) rfl rfl rfl (by omega)) rfl rfl rfl ?_
            refine wl_v (ov_assign rfl) rfl rfl rfl ?_
            refine wl_nil ?_
            exact fun ac_ w_ hs_ => hR0 (v + 1) ⟨by omega, fun j hj => by rcases Nat.lt_succ_iff_lt_or_eq.1 hj with h | rfl; exact hw2 j h; exact (if_neg c29).trans (by simpa using b41)⟩ (by omega) ac_ w_ (hs_.weaken (.cons rfl (.cons rfl (.cons rfl (.cons rfl (.nil))))) (.cons (.tail (.tail .head)) (.cons (.tail (.tail .head)) (.cons (.tail (.tail .head)) ((.drop (.drop .refl)))))))
        ·
          refine go_r rfl rfl rfl rfl (or_buildSlice (e := 3) (size := 1) (is := [0]) (vs := [.int .i64 (((v : Nat) : Int))]) (cs := cells fI ([((v : Nat) : Int)])) rfl rfl rfl (by decide) (fun _ => by kernel_rfl)) (kt1 rfl (fun g36 => ?_))
          refine gk (.cons (.tail .head) (.cons (.tail .head) (.cons (.tail .head) ((.drop .refl))))) ?_
          refine wg_one (i := 3) (by kernel_rfl) ?_
          refine go_r rfl rfl rfl rfl (or_call (fv := []) (vs := [.slice A1 (n1) (c1)]) (cs := []) en99 rfl rfl (call_x2 (fun w hw => copyInts_c w A1 n1 c1 ts ((holds_row (List.Mem.tail _ (List.Mem.tail _ (List.Mem.tail _ (List.Mem.head _))))) w hw) e1 l1 (by omega)))) (kt2p rfl (fun A2_34 c2_34 h_34 => ?_))
          refine gk (.cons (.tail (.tail .head)) (.cons (.tail (.tail .head)) (.cons (.tail (.tail .head)) ((.drop (.drop .refl)))))) ?_
          refine wg_one (i := 6) (by kernel_rfl) ?_
          refine go_r rfl rfl rfl rfl (or_append (c2 := 1) sI31 tI3 rfl (by decide) rfl rfl (.head) (holds_row (List.Mem.tail _ (List.Mem.head _))) (by rw [cells_length fI_len]; try simp) (one_cells fI_one _) cells_append (by omega) (by omega)) (kt2p rfl (fun A37 c37 h37 => ?_))
          refine gk (.cons (.tail (.tail .head)) (.cons (.tail (.tail .head)) (.cons (.tail (.tail .head)) ((.drop (.drop .refl)))))) ?_
          refine wg_one (i := 7) (by kernel_rfl) ?_
          refine go_r rfl rfl rfl rfl (or_call (fv := []) (vs := [.agg #[.int .i64 (((m : Nat) : Int)), .slice A (es.length) (c)], .agg #[.int .i64 (((m : Nat) : Int)), .slice A2 (fs.length) (c2)], .slice A37 (n1 + 1) (c37)]) (cs := []) en84 rfl rfl (call_o (.cons (.head) (.cons (.head) (.cons (.head) (.cons (.head) (.cons (.head) (.refl)))))) (fun w hw => findMap_c w _ _ _ m A es.length c es m A2 fs.length c2 fs A37 (n1 + 1) c37 (ts ++ ([((v : Nat) : Int)])) (Holds.keepF hA ((.drop (.drop (.drop (.drop .refl)))))) (by first | rfl | assumption | (simp; done) | (simp; omega)) lA (Holds.keepF hA2 ((.drop (.drop (.drop (.drop .refl)))))) (by first | rfl | assumption | (simp; done) | (simp; omega)) lA2 h37 (by rw [List.length_append, e1]; rfl) (ho.snoc (by omega) c29) (by first | assumption | omega | (simp; omega)) (by first | assumption | omega | (simp; omega)) (by first | assumption | omega | (simp; omega)) (by first | assumption | omega | (simp; omega)) hw))) (kt3p rfl (fun A2_38 c2_38 rs_38 h_38 => ?_))
          refine gk (.cons (.tail (.tail .head)) (.cons (.tail (.tail .head)) (.cons (.tail (.tail .head)) ((.drop (.drop .refl)))))) ?_
          refine wg_takep (i := 8) rfl (ov_move rfl) rfl rfl rfl (by kernel_rfl) (by kernel_rfl) (by kernel_rfl) rfl ?_
          refine wg_takep (i := 9) rfl (ov_extract rfl rfl) rfl rfl rfl (by kernel_rfl) (by kernel_rfl) (by kernel_rfl) rfl ?_
          refine wg_takep (i := 10) rfl (ov_extract rfl rfl) rfl rfl rfl (by kernel_rfl) (by kernel_rfl) (by kernel_rfl) rfl ?_
          refine wg_takep (i := 11) rfl (ov_assign rfl) rfl rfl rfl (by kernel_rfl) (by kernel_rfl) (by kernel_rfl) rfl ?_
          refine wg_takep (i := 12) rfl (ov_assign rfl) rfl rfl rfl (by kernel_rfl) (by kernel_rfl) (by kernel_rfl) rfl ?_
          refine wg_done (by kernel_rfl) ?_
          refine ce_then ?_
          refine cw_seq ?_
          refine cw_region ?_
          refine wl_v (ov_move rfl) rfl rfl rfl ?_
          refine wl_nil ?_
          refine ce_then ?_
          refine ct_bool (i := 41) rfl (fun b41 => ?_) (fun b41 => ?_)
          ·
            obtain ⟨x, hx⟩ := Option.isSome_iff_exists.1 b41
            have hz : mapS es fs m (m - n1) ts = some x := by rw [show m - n1 = (m - (n1 + 1)) + 1 from by omega, mapS]; exact fsome_found (w := v) (by omega) (by rw [if_neg c29]; exact hx) hw2
            refine cw_true rfl ?_
            refine cw_seq ?_
            refine cw_region ?_
            refine wl_v (ov_move rfl) rfl rfl rfl ?_
            refine wl_v (ov_assign rfl) rfl rfl rfl ?_
            refine wl_v (ov_assign rfl) rfl rfl rfl ?_
            refine wl_nil ?_
            refine ce_then ?_
            refine cw_ret ?_
            refine ce_block_ret ?_
            refine ce_then_ret ?_
            refine ce_then_ret ?_
            refine ce_block_ret ?_
            refine ce_then_ret ?_
            refine ce_results (v := .tuple #[.slice A2_38 (rs_38.length) (c2_38), .bool true]) (res2 rfl (rv_t rfl) (rv_t rfl)) (fun w' hw => ?_)
            exact ⟨A2_38, c2_38, rs_38, ⟨fun y hy => h_38.1 y (by rw [hx, ← hy, hz]), h_38.2⟩, (by rw [hz] <;> rfl), ((.cons (.head) ((.drop (.drop (.drop (.drop .refl))))) : Keep _ _).ss hw)⟩
          ·
            refine cw_false rfl ?_
            refine cw_skip ?_
            refine ce_block ?_
            refine ce_then ?_
            refine cw_region ?_
            refine wl_v (ov_move rfl) rfl rfl rfl ?_
            refine wl_v (ov_add (r := ((v + 1 : Nat) : Int)) rfl rfl rfl (by omega)) rfl rfl rfl ?_
            refine wl_v (ov_assign rfl) rfl rfl rfl ?_
            refine wl_nil ?_
            exact fun ac_ w_ hs_ => hR0 (v + 1) ⟨by omega, fun j hj => by rcases Nat.lt_succ_iff_lt_or_eq.1 hj with h | rfl; exact hw2 j h; exact (if_neg c29).trans (by simpa using b41)⟩ (by omega) ac_ w_ (hs_.weaken (.cons rfl (.cons rfl (.cons rfl (.cons rfl (.nil))))) (.cons (.tail (.tail .head)) (.cons (.tail (.tail .head)) (.cons (.tail (.tail .head)) ((.drop (.drop .refl)))))))
    ·
      refine wl_nil ?_
      refine ce_then ?_
      refine cw_false rfl ?_
      refine cw_exit ?_
      refine ce_then_exit ?_
      refine ce_then_exit ?_
      refine ce_hit ?_
      refine ce_then ?_
      refine cw_seq ?_
      have hz : mapS es fs m (m - n1) ts = none := by rw [show m - n1 = (m - (n1 + 1)) + 1 from by omega, mapS]; exact fsome_none (fun j hj => hw2 j (by omega))
      refine ct_none fI 3 1 ?_
      refine cw_region ?_
      refine wl_v (ov_assign rfl) rfl rfl rfl ?_
      refine wl_v (ov_assign rfl) rfl rfl rfl ?_
      refine wl_nil ?_
      refine ce_then ?_
      refine cw_ret ?_
      refine ce_results (v := .tuple #[.slice none (0) (0), .bool false]) (res2 rfl (rv_t rfl) (rv_t rfl)) (fun w' hw => ?_)
      exact ⟨none, 0, [], ⟨fun x hx => (by rw [hz] at hx; cases hx), Nat.le_refl _⟩, (by rw [hz] <;> rfl), ((.cons (.head) ((.drop (.drop (.drop .refl)))) : Keep _ _).ss hw)⟩
termination_by m - n1
decreasing_by all_goals omega
set_option maxRecDepth 100000 in
theorem alike_c (w : World) (m : Nat) (A : Option Addr) (n : Nat) (c : Nat) (es : List (Int × Int)) (m2 : Nat) (A2 : Option Addr) (n2 : Nat) (c2 : Nat) (fs : List (Int × Int)) (hA : At w A (cells fE es)) (eA : es.length = n) (lA : n ≤ c) (hA2 : At w A2 (cells fE fs)) (eA2 : fs.length = n2) (lA2 : n2 ≤ c2) (he : m = m2) (hg : Gr m es) (hf : Gr m fs) (hm : m ≤ 6) : Calls Try.prog 83 #[.agg #[.int .i64 (((m : Nat) : Int)), .slice A (n) (c)], .agg #[.int .i64 (((m2 : Nat) : Int)), .slice A2 (n2) (c2)]] w (Ret fun rv w' => rv = .bool (decide ((mapI es fs m m []).isSome = true)) ∧ New w w' []) := by
  have oA := hA.atB
  subst eA
  have oA2 := hA2.atB
  subst eA2
  subst he
  have hel := hg.len (by omega)
  have hfl := hf.len (by omega)
  refine fn_enter (args := [.agg #[.int .i64 (((m : Nat) : Int)), .slice A (es.length) (c)], .agg #[.int .i64 (((m : Nat) : Int)), .slice A2 (fs.length) (c2)]]) Try.func83 rfl Try.ntmps83 rfl (SS.start w) ?_
  refine cw_seq ?_
  refine cw_region ?_
  refine wl_r (or_box rfl rfl) rfl rfl (kt1 rfl (fun g2 => ?_))
  refine wl_r (or_box rfl rfl) rfl rfl (kt1 rfl (fun g3 => ?_))
  refine wl_v (ov_assign rfl) rfl rfl rfl ?_
  refine wl_nil ?_
  refine ce_then ?_
  refine cw_seq ?_
  refine cw_seq ?_
  refine cw_draw mixO [] (.cons (.head) (.cons (.head) (.nil))) rfl ?_
  refine wg_take (i := 0) rfl (ov_fieldAddr fI25_0 some_lit rfl) rfl rfl rfl (by kernel_rfl) (by kernel_rfl) (by kernel_rfl) (by kernel_rfl) ?_
  refine wg_take (i := 1) rfl (ov_load tI3 (holds_blk (List.Mem.tail _ (List.Mem.head _))) rfl rfl) rfl rfl rfl (by kernel_rfl) (by kernel_rfl) (by kernel_rfl) (by kernel_rfl) ?_
  refine wg_take (i := 2) rfl (ov_fieldAddr fI25_0 some_lit rfl) rfl rfl rfl (by kernel_rfl) (by kernel_rfl) (by kernel_rfl) (by kernel_rfl) ?_
  refine wg_take (i := 3) rfl (ov_load tI3 (holds_blk (List.Mem.head _)) rfl rfl) rfl rfl rfl (by kernel_rfl) (by kernel_rfl) (by kernel_rfl) (by kernel_rfl) ?_
  refine wg_takep_if (i := 4) rfl (ov_neq rfl rfl) rfl rfl rfl (by kernel_rfl) (by kernel_rfl) (by kernel_rfl) rfl (fun c11 => ?_) (fun c11 => ?_)
  ·
    exact absurd rfl c11
  ·
    refine wg_takep (i := 5) rfl (ov_move rfl) rfl rfl rfl (by kernel_rfl) (by kernel_rfl) (by kernel_rfl) rfl ?_
    refine wg_take_go (i := 6) rfl rfl rfl (ov_fieldAddr fI25_1 some_lit rfl) rfl (by kernel_rfl) (by kernel_rfl) (by kernel_rfl) (by kernel_rfl) ?_
    refine wg_take_go (i := 7) rfl rfl rfl (ov_load tI23 (holds_blk (List.Mem.tail _ (List.Mem.head _))) rfl rfl) rfl (by kernel_rfl) (by kernel_rfl) (by kernel_rfl) (by kernel_rfl) ?_
    refine wg_take_go (i := 8) rfl rfl rfl (ov_len (sliceI_spec sI23) rfl) rfl (by kernel_rfl) (by kernel_rfl) (by kernel_rfl) (by kernel_rfl) ?_
    refine wg_take_go (i := 9) rfl rfl rfl (ov_fieldAddr fI25_1 some_lit rfl) rfl (by kernel_rfl) (by kernel_rfl) (by kernel_rfl) (by kernel_rfl) ?_
    refine wg_take_go (i := 10) rfl rfl rfl (ov_load tI23 (holds_blk (List.Mem.head _)) rfl rfl) rfl (by kernel_rfl) (by kernel_rfl) (by kernel_rfl) (by kernel_rfl) ?_
    refine wg_take_go (i := 11) rfl rfl rfl (ov_len (sliceI_spec sI23) rfl) rfl (by kernel_rfl) (by kernel_rfl) (by kernel_rfl) (by kernel_rfl) ?_
    refine wg_take_go_if (i := 12) rfl rfl rfl (ov_neq rfl rfl) rfl (by kernel_rfl) (by kernel_rfl) (by kernel_rfl) (by kernel_rfl) (fun c19 => ?_) (fun c19 => ?_)
    ·
      refine wg_takep (i := 13) rfl (ov_pick_f rfl rfl) rfl rfl rfl (by kernel_rfl) (by kernel_rfl) (by kernel_rfl) rfl ?_
      refine wg_takep (i := 14) rfl (ov_move rfl) rfl rfl rfl (by kernel_rfl) (by kernel_rfl) (by kernel_rfl) rfl ?_
      refine wg_take_not (i := 15) rfl rfl rfl rfl rfl (by kernel_rfl) (by kernel_rfl) (by kernel_rfl) (by kernel_rfl) ?_
      refine wg_take_not (i := 16) rfl rfl rfl rfl rfl (by kernel_rfl) (by kernel_rfl) (by kernel_rfl) (by kernel_rfl) ?_
      refine wg_take_not (i := 17) rfl rfl rfl rfl rfl (by kernel_rfl) (by kernel_rfl) (by kernel_rfl) (by kernel_rfl) ?_
      refine wg_take_not (i := 18) rfl rfl rfl rfl rfl (by kernel_rfl) (by kernel_rfl) (by kernel_rfl) (by kernel_rfl) ?_
      refine wg_take_not (i := 19) rfl rfl rfl rfl rfl (by kernel_rfl) (by kernel_rfl) (by kernel_rfl) (by kernel_rfl) ?_
      refine wg_take_not (i := 20) rfl rfl rfl rfl rfl (by kernel_rfl) (by kernel_rfl) (by kernel_rfl) (by kernel_rfl) ?_
      refine wg_take_not (i := 21) rfl rfl rfl rfl rfl (by kernel_rfl) (by kernel_rfl) (by kernel_rfl) (by kernel_rfl) ?_
      refine wg_take_not (i := 22) rfl rfl rfl rfl rfl (by kernel_rfl) (by kernel_rfl) (by kernel_rfl) (by kernel_rfl) ?_
      refine wg_takep (i := 23) rfl (ov_pick_t rfl rfl) rfl rfl rfl (by kernel_rfl) (by kernel_rfl) (by kernel_rfl) rfl ?_
      refine wg_done (by kernel_rfl) ?_
      refine ce_then ?_
      refine cw_true rfl ?_
      refine cw_seq ?_
      refine cw_region ?_
      refine wl_v (ov_assign rfl) rfl rfl rfl ?_
      refine wl_nil ?_
      refine ce_then ?_
      refine cw_ret ?_
      refine ce_then_ret ?_
      refine ce_results (v := .bool false) (res1 rfl (rv_t rfl)) (fun w' hw => ?_)
      exact ⟨(bf (fun h => c19 (by have := ((alike_iff hg hf).2 h).1; omega))), (Keep.nil.ss hw).to_new⟩
    ·
      refine wg_takep (i := 13) rfl (ov_pick_f rfl rfl) rfl rfl rfl (by kernel_rfl) (by kernel_rfl) (by kernel_rfl) rfl ?_
      refine wg_takep (i := 14) rfl (ov_move rfl) rfl rfl rfl (by kernel_rfl) (by kernel_rfl) (by kernel_rfl) rfl ?_
      refine wg_take_go (i := 15) rfl rfl rfl (ov_loadAgg (vs := [.int .i64 (((m : Nat) : Int)), .slice A (es.length) (c)]) tI25 (holds_blk (List.Mem.tail _ (List.Mem.head _))) rfl some_lit rfl rfl) rfl (by kernel_rfl) (by kernel_rfl) (by kernel_rfl) (by kernel_rfl) ?_
      refine wg_take_go (i := 18) rfl rfl rfl (ov_loadAgg (vs := [.int .i64 (((m : Nat) : Int)), .slice A2 (fs.length) (c2)]) tI25 (holds_blk (List.Mem.head _)) rfl some_lit rfl rfl) rfl (by kernel_rfl) (by kernel_rfl) (by kernel_rfl) (by kernel_rfl) ?_
      refine wg_one (i := 16) (by kernel_rfl) ?_
      refine go_rg rfl rfl rfl rfl (or_call (fv := []) (vs := [.agg #[.int .i64 (((m : Nat) : Int)), .slice A (es.length) (c)]]) (cs := []) en86 rfl rfl (call_x1 (fun w hw => degreesS_c w m A es.length c es ((holds_old oA) w hw) rfl lA (by first | assumption | omega | (simp; omega)) (by first | assumption | omega | (simp; omega)) hg.inr))) (kt1p rfl (fun g_23 h_23 => ?_))
      refine gk (.cons (.tail .head) (.cons (.tail .head) (.nil))) ?_
      refine wg_one (i := 17) (by kernel_rfl) ?_
      refine go_rg rfl rfl rfl rfl (or_call (fv := []) (vs := [.slice (some ⟨g_23, 0, none⟩) (m) (m)]) (cs := []) en131 rfl rfl (call_x2 (fun w hw => fallingS_c w (some ⟨g_23, 0, none⟩) m m (degs m es) ((holds_row (List.Mem.head _)) w hw) (degs_length _ _) (Nat.le_refl _) (by rw [degs_length]; omega)))) (kt2p rfl (fun A2_24 c2_24 h_24 => ?_))
      refine gk (.cons (.tail (.tail .head)) (.cons (.tail (.tail .head)) (.nil))) ?_
      refine wg_one (i := 19) (by kernel_rfl) ?_
      refine go_rg rfl rfl rfl rfl (or_call (fv := []) (vs := [.agg #[.int .i64 (((m : Nat) : Int)), .slice A2 (fs.length) (c2)]]) (cs := []) en86 rfl rfl (call_x1 (fun w hw => degreesS_c w m A2 fs.length c2 fs ((holds_old oA2) w hw) rfl lA2 (by first | assumption | omega | (simp; omega)) (by first | assumption | omega | (simp; omega)) hf.inr))) (kt1p rfl (fun g_26 h_26 => ?_))
      refine gk (.cons (.tail (.tail (.tail .head))) (.cons (.tail (.tail (.tail .head))) (.nil))) ?_
      refine wg_one (i := 20) (by kernel_rfl) ?_
      refine go_rg rfl rfl rfl rfl (or_call (fv := []) (vs := [.slice (some ⟨g_26, 0, none⟩) (m) (m)]) (cs := []) en131 rfl rfl (call_x2 (fun w hw => fallingS_c w (some ⟨g_26, 0, none⟩) m m (degs m fs) ((holds_row (List.Mem.head _)) w hw) (degs_length _ _) (Nat.le_refl _) (by rw [degs_length]; omega)))) (kt2p rfl (fun A2_27 c2_27 h_27 => ?_))
      refine gk (.cons (.tail (.tail (.tail (.tail .head)))) (.cons (.tail (.tail (.tail (.tail .head)))) (.nil))) ?_
      refine wg_one (i := 21) (by kernel_rfl) ?_
      refine go_rg rfl rfl rfl rfl (or_call (fv := []) (vs := [.slice A2_24 (m) (c2_24), .slice A2_27 (m) (c2_27)]) (cs := []) en130 rfl rfl (call_v (fun w hw => same_c w A2_24 m c2_24 (fall (degs m es)) A2_27 m c2_27 (fall (degs m fs)) ((holds_row (List.Mem.tail _ (List.Mem.tail _ (List.Mem.head _)))) w hw) (by rw [fall_length, degs_length]) h_24 ((holds_row (List.Mem.head _)) w hw) (by rw [fall_length, degs_length]) h_27 (by rw [fall_length, degs_length]; omega)))) (kt_if rfl (fun c28 => ?_) (fun c28 => ?_))
      ·
        refine gk (.cons (.tail (.tail (.tail (.tail .head)))) (.cons (.tail (.tail (.tail (.tail .head)))) (.nil))) ?_
        refine wg_take_go (i := 22) rfl rfl rfl (ov_not rfl) rfl (by kernel_rfl) (by kernel_rfl) (by kernel_rfl) (by kernel_rfl) ?_
        refine wg_takep (i := 23) rfl (ov_pick_f rfl rfl) rfl rfl rfl (by kernel_rfl) (by kernel_rfl) (by kernel_rfl) rfl ?_
        refine wg_done (by kernel_rfl) ?_
        refine ce_then ?_
        refine cw_false rfl ?_
        refine cw_skip ?_
        refine ce_then ?_
        refine cw_seq ?_
        refine cw_region ?_
        refine wl_v (ov_loadAgg (vs := [.int .i64 (((m : Nat) : Int)), .slice A (es.length) (c)]) tI25 (holds_blk (List.Mem.tail _ (List.Mem.tail _ (List.Mem.tail _ (List.Mem.tail _ (List.Mem.tail _ (List.Mem.head _))))))) rfl some_lit rfl rfl) rfl rfl rfl ?_
        refine wl_v (ov_loadAgg (vs := [.int .i64 (((m : Nat) : Int)), .slice A2 (fs.length) (c2)]) tI25 (holds_blk (List.Mem.tail _ (List.Mem.tail _ (List.Mem.tail _ (List.Mem.tail _ (List.Mem.head _)))))) rfl some_lit rfl rfl) rfl rfl rfl ?_
        refine wl_r (or_buildSlice (e := 3) (size := 1) (is := []) (vs := []) (cs := cells fI ([])) rfl rfl rfl (by decide) (fun _ => by kernel_rfl)) rfl rfl (kt1 rfl (fun g34 => ?_))
        refine wl_r (or_call (fv := []) (vs := [.agg #[.int .i64 (((m : Nat) : Int)), .slice A (es.length) (c)], .agg #[.int .i64 (((m : Nat) : Int)), .slice A2 (fs.length) (c2)], .slice (some ⟨g34, 0, none⟩) (0) (0)]) (cs := []) en84 rfl rfl (call_o (.cons (.head) (.cons (.head) (.cons (.head) (.cons (.head) (.cons (.head) (.cons (.head) (.cons (.head) (.nil)))))))) (fun w hw => findMap_c w _ _ _ m A es.length c es m A2 fs.length c2 fs (some ⟨g34, 0, none⟩) 0 0 ([]) (holds_old oA) (by first | rfl | assumption | (simp; done) | (simp; omega)) lA (holds_old oA2) (by first | rfl | assumption | (simp; done) | (simp; omega)) lA2 (Nat.le_refl _) rfl (okT_nil _) (by first | assumption | omega | (simp; omega)) (by first | assumption | omega | (simp; omega)) (by first | assumption | omega | (simp; omega)) (by first | assumption | omega | (simp; omega)) hw))) rfl rfl (kt3p rfl (fun A2_35 c2_35 rs_35 h_35 => ?_))
        refine wl_v (ov_move rfl) rfl rfl rfl ?_
        refine wl_v (ov_extract rfl rfl) rfl rfl rfl ?_
        refine wl_v (ov_extract rfl rfl) rfl rfl rfl ?_
        refine wl_v (ov_assign rfl) rfl rfl rfl ?_
        refine wl_v (ov_assign rfl) rfl rfl rfl ?_
        refine wl_nil ?_
        refine ce_then ?_
        refine cw_seq ?_
        refine ct_bool (i := 6) rfl (fun b6 => ?_) (fun b6 => ?_)
        ·
          refine cw_region ?_
          refine wl_v (ov_move rfl) rfl rfl rfl ?_
          refine wl_v (ov_assign rfl) rfl rfl rfl ?_
          refine wl_nil ?_
          refine ce_then ?_
          refine cw_ret ?_
          refine ce_results (v := .bool true) (res1 rfl (rv_t rfl)) (fun w' hw => ?_)
          exact ⟨(bt ((alike_iff hg hf).1 ⟨by omega, c28, b6⟩)), (Keep.nil.ss hw).to_new⟩
        ·
          refine cw_region ?_
          refine wl_v (ov_move rfl) rfl rfl rfl ?_
          refine wl_v (ov_assign rfl) rfl rfl rfl ?_
          refine wl_nil ?_
          refine ce_then ?_
          refine cw_ret ?_
          refine ce_results (v := .bool false) (res1 rfl (rv_t rfl)) (fun w' hw => ?_)
          exact ⟨(bf (fun h => by have h9 := ((alike_iff hg hf).2 h).2.2; rw [show (mapS es fs m m []).isSome = false from b6] at h9; cases h9)), (Keep.nil.ss hw).to_new⟩
      ·
        refine gk (.cons (.tail (.tail (.tail (.tail .head)))) (.cons (.tail (.tail (.tail (.tail .head)))) (.nil))) ?_
        refine wg_take_go (i := 22) rfl rfl rfl (ov_not rfl) rfl (by kernel_rfl) (by kernel_rfl) (by kernel_rfl) (by kernel_rfl) ?_
        refine wg_takep (i := 23) rfl (ov_pick_f rfl rfl) rfl rfl rfl (by kernel_rfl) (by kernel_rfl) (by kernel_rfl) rfl ?_
        refine wg_done (by kernel_rfl) ?_
        refine ce_then ?_
        refine cw_true rfl ?_
        refine cw_seq ?_
        refine cw_region ?_
        refine wl_v (ov_assign rfl) rfl rfl rfl ?_
        refine wl_nil ?_
        refine ce_then ?_
        refine cw_ret ?_
        refine ce_then_ret ?_
        refine ce_results (v := .bool false) (res1 rfl (rv_t rfl)) (fun w' hw => ?_)
        exact ⟨(bf (fun h => c28 ((alike_iff hg hf).2 h).2.1)), (Keep.nil.ss hw).to_new⟩
set_option maxRecDepth 100000 in
theorem MapOfI_c (w : World) (N : Int) (A : Option Addr) (n : Nat) (c : Nat) (es : List (Int × Int)) (M : Int) (A2 : Option Addr) (n2 : Nat) (c2 : Nat) (fs : List (Int × Int)) (hA : At w A (cells fE es)) (eA : es.length = n) (lA : n ≤ c) (hA2 : At w A2 (cells fE fs)) (eA2 : fs.length = n2) (lA2 : n2 ≤ c2) (hs : es.length ≤ 1048576 ∧ fs.length ≤ 1048576) (hN : N ≤ 9223372036854775807 ∧ M ≤ 9223372036854775807) : Calls Try.prog 33 #[.agg #[.int .i64 (N), .slice A (n) (c)], .agg #[.int .i64 (M), .slice A2 (n2) (c2)]] w (Ret fun rv w' => ∃ A3 c3 c4, ((mapV N es M fs).1.length ≤ c3) ∧ rv = .tuple #[.slice A3 ((mapV N es M fs).1.length) (c3), .bool ((mapV N es M fs).2)] ∧ New w w' [row 3 1 A3 ((mapV N es M fs).1.length) (c4) (cells fI ((mapV N es M fs).1))]) := by
  have oA := hA.atB
  subst eA
  have oA2 := hA2.atB
  subst eA2
  refine fn_enter (args := [.agg #[.int .i64 (N), .slice A (es.length) (c)], .agg #[.int .i64 (M), .slice A2 (fs.length) (c2)]]) Try.func33 rfl Try.ntmps33 rfl (SS.start w) ?_
  refine cw_seq ?_
  refine cw_region ?_
  refine wl_r (or_box rfl rfl) rfl rfl (kt1 rfl (fun g2 => ?_))
  refine wl_r (or_box rfl rfl) rfl rfl (kt1 rfl (fun g3 => ?_))
  refine wl_v (ov_assign rfl) rfl rfl rfl ?_
  refine wl_v (ov_assign rfl) rfl rfl rfl ?_
  refine wl_nil ?_
  refine ce_then ?_
  refine cw_seq ?_
  refine cw_seq ?_
  refine cw_region ?_
  refine wl_v (ov_loadAgg (vs := [.int .i64 (N), .slice A (es.length) (c)]) tI25 (holds_blk (List.Mem.tail _ (List.Mem.head _))) rfl some_lit rfl rfl) rfl rfl rfl ?_
  refine wl_v (ov_loadAgg (vs := [.int .i64 (M), .slice A2 (fs.length) (c2)]) tI25 (holds_blk (List.Mem.head _)) rfl some_lit rfl rfl) rfl rfl rfl ?_
  refine wl_r (or_call (fv := []) (vs := [.agg #[.int .i64 (N), .slice A (es.length) (c)], .agg #[.int .i64 (M), .slice A2 (fs.length) (c2)]]) (cs := []) en75 rfl rfl (call_v (fun w hw => both_c w N A es.length c es M A2 fs.length c2 fs ((holds_old oA) w hw) rfl lA ((holds_old oA2) w hw) rfl lA2 (by first | assumption | omega | (simp; omega)) (by first | assumption | omega | (simp; omega))))) rfl rfl (kt_if rfl (fun c8 => ?_) (fun c8 => ?_))
  ·
    refine wl_v (ov_not rfl) rfl rfl rfl ?_
    refine wl_v (ov_move rfl) rfl rfl rfl ?_
    refine wl_go rfl rfl ?_
    refine wl_v (ov_fieldAddr fI25_0 some_lit rfl) rfl rfl rfl ?_
    refine wl_go rfl rfl ?_
    refine wl_v (ov_load tI3 (holds_blk (List.Mem.tail _ (List.Mem.head _))) rfl rfl) rfl rfl rfl ?_
    refine wl_go rfl rfl ?_
    refine wl_if (ov_gtr rfl rfl) rfl rfl rfl (fun c13 => ?_) (fun c13 => ?_)
    ·
      have hv : mapV N es M fs = ([], false) := by rw [mapV, if_neg (fun h => by have := h.2.2.2; omega)]
      refine ct_none fI 3 1 ?_
      refine wl_v (ov_pick_f rfl rfl) rfl rfl rfl ?_
      refine wl_nil ?_
      refine ce_then ?_
      refine cw_true rfl ?_
      refine cw_seq ?_
      refine cw_region ?_
      refine wl_v (ov_assign rfl) rfl rfl rfl ?_
      refine wl_v (ov_assign rfl) rfl rfl rfl ?_
      refine wl_nil ?_
      refine ce_then ?_
      refine cw_ret ?_
      refine ce_then_ret ?_
      refine ce_results (v := .tuple #[.slice none (0) (0), .bool false]) (res2 rfl (rv_t rfl) (rv_t rfl)) (fun w' hw => ?_)
      exact ⟨none, 0, 0, (by rw [hv]; exact Nat.le_refl _), (by rw [hv] <;> rfl), ((.consE (show row 3 1 none (0) (0) (cells fI ([])) = row 3 1 none ((mapV N es M fs).1.length) (0) (cells fI ((mapV N es M fs).1)) by rw [hv] <;> rfl) (.head) (.nil) : Keep _ _).ss hw).to_new⟩
    ·
      refine wl_v (ov_pick_f rfl rfl) rfl rfl rfl ?_
      refine wl_nil ?_
      refine ce_then ?_
      refine cw_false rfl ?_
      refine cw_skip ?_
      refine ce_then ?_
      refine cw_seq ?_
      obtain ⟨m, rfl⟩ := Int.eq_ofNat_of_zero_le (show 0 ≤ N from c8.1.2.1)
      obtain ⟨m2, rfl⟩ := Int.eq_ofNat_of_zero_le (show 0 ≤ M from c8.2.1.2.1)
      have he : m = m2 := by have := c8.2.2; omega
      have hg : Gr m es := by have h9 := c8.1.gr; rwa [Int.toNat_natCast] at h9
      have hf : Gr m fs := by have h9 := c8.2.1.gr; rwa [Int.toNat_natCast, ← he] at h9
      have hv : mapV ((m : Nat) : Int) es ((m2 : Nat) : Int) fs = ((mapI es fs m m []).getD [], (mapI es fs m m []).isSome) := by rw [mapV, if_pos ⟨c8.1, c8.2.1, c8.2.2, by omega⟩, Int.toNat_natCast]
      refine cw_region ?_
      refine wl_v (ov_loadAgg (vs := [.int .i64 (((m : Nat) : Int)), .slice A (es.length) (c)]) tI25 (holds_blk (List.Mem.tail _ (List.Mem.head _))) rfl some_lit rfl rfl) rfl rfl rfl ?_
      refine wl_v (ov_loadAgg (vs := [.int .i64 (((m2 : Nat) : Int)), .slice A2 (fs.length) (c2)]) tI25 (holds_blk (List.Mem.head _)) rfl some_lit rfl rfl) rfl rfl rfl ?_
      refine wl_r (or_call (fv := []) (vs := [.agg #[.int .i64 (((m : Nat) : Int)), .slice A (es.length) (c)], .agg #[.int .i64 (((m2 : Nat) : Int)), .slice A2 (fs.length) (c2)]]) (cs := []) en82 rfl rfl (call_x3 (fun w hw => mapped_c w m A es.length c es m2 A2 fs.length c2 fs ((holds_old oA) w hw) rfl lA ((holds_old oA2) w hw) rfl lA2 (by first | assumption | omega | (simp; omega)) (by first | assumption | omega | (simp; omega)) (by first | assumption | omega | (simp; omega)) (by first | assumption | omega | (simp; omega))))) rfl rfl (kt3p rfl (fun A3_17 c3_17 c4_17 h_17 => ?_))
      refine wl_v (ov_extract rfl rfl) rfl rfl rfl ?_
      refine wl_v (ov_extract rfl rfl) rfl rfl rfl ?_
      refine wl_v (ov_assign rfl) rfl rfl rfl ?_
      refine wl_v (ov_assign rfl) rfl rfl rfl ?_
      refine wl_nil ?_
      refine ce_then ?_
      refine cw_ret ?_
      refine ce_results (v := .tuple #[.slice A3_17 (((mapI es fs m m []).getD []).length) (c3_17), .bool ((mapI es fs m m []).isSome)]) (res2 rfl (rv_t rfl) (rv_t rfl)) (fun w' hw => ?_)
      exact ⟨A3_17, c3_17, c4_17, (by rw [hv]; exact h_17), (by rw [hv]), ((.consE (show row 3 1 A3_17 (((mapI es fs m m []).getD []).length) (c4_17) (cells fI ((mapI es fs m m []).getD [])) = row 3 1 A3_17 ((mapV ((m : Nat) : Int) es ((m2 : Nat) : Int) fs).1.length) (c4_17) (cells fI ((mapV ((m : Nat) : Int) es ((m2 : Nat) : Int) fs).1)) by rw [hv]) (.head) (.nil) : Keep _ _).ss hw).to_new⟩
  ·
    have hv : mapV N es M fs = ([], false) := by rw [mapV, if_neg (fun h => c8 ⟨h.1, h.2.1, h.2.2.1⟩)]
    refine ct_none fI 3 1 ?_
    refine wl_v (ov_not rfl) rfl rfl rfl ?_
    refine wl_v (ov_move rfl) rfl rfl rfl ?_
    refine wl_not rfl rfl rfl rfl rfl rfl ?_
    refine wl_not rfl rfl rfl rfl rfl rfl ?_
    refine wl_not rfl rfl rfl rfl rfl rfl ?_
    refine wl_v (ov_pick_t rfl rfl) rfl rfl rfl ?_
    refine wl_nil ?_
    refine ce_then ?_
    refine cw_true rfl ?_
    refine cw_seq ?_
    refine cw_region ?_
    refine wl_v (ov_assign rfl) rfl rfl rfl ?_
    refine wl_v (ov_assign rfl) rfl rfl rfl ?_
    refine wl_nil ?_
    refine ce_then ?_
    refine cw_ret ?_
    refine ce_then_ret ?_
    refine ce_results (v := .tuple #[.slice none (0) (0), .bool false]) (res2 rfl (rv_t rfl) (rv_t rfl)) (fun w' hw => ?_)
    exact ⟨none, 0, 0, (by rw [hv]; exact Nat.le_refl _), (by rw [hv] <;> rfl), ((.consE (show row 3 1 none (0) (0) (cells fI ([])) = row 3 1 none ((mapV N es M fs).1.length) (0) (cells fI ((mapV N es M fs).1)) by rw [hv] <;> rfl) (.head) (.nil) : Keep _ _).ss hw).to_new⟩
set_option maxRecDepth 100000 in
theorem MapOfS_c (w : World) (N : Int) (A : Option Addr) (n : Nat) (c : Nat) (es : List (Int × Int)) (M : Int) (A2 : Option Addr) (n2 : Nat) (c2 : Nat) (fs : List (Int × Int)) (hA : At w A (cells fE es)) (eA : es.length = n) (lA : n ≤ c) (hA2 : At w A2 (cells fE fs)) (eA2 : fs.length = n2) (lA2 : n2 ≤ c2) (hs : es.length ≤ 1048576 ∧ fs.length ≤ 1048576) (hN : N ≤ 9223372036854775807 ∧ M ≤ 9223372036854775807) : Calls Try.prog 34 #[.agg #[.int .i64 (N), .slice A (n) (c)], .agg #[.int .i64 (M), .slice A2 (n2) (c2)]] w (Ret fun rv w' => ∃ A3 c3 c4, ((mapV N es M fs).1.length ≤ c3) ∧ rv = .tuple #[.slice A3 ((mapV N es M fs).1.length) (c3), .bool ((mapV N es M fs).2)] ∧ New w w' [row 3 1 A3 ((mapV N es M fs).1.length) (c4) (cells fI ((mapV N es M fs).1))]) := by
  have oA := hA.atB
  subst eA
  have oA2 := hA2.atB
  subst eA2
  refine fn_enter (args := [.agg #[.int .i64 (N), .slice A (es.length) (c)], .agg #[.int .i64 (M), .slice A2 (fs.length) (c2)]]) Try.func34 rfl Try.ntmps34 rfl (SS.start w) ?_
  refine cw_seq ?_
  refine cw_region ?_
  refine wl_r (or_box rfl rfl) rfl rfl (kt1 rfl (fun g2 => ?_))
  refine wl_r (or_box rfl rfl) rfl rfl (kt1 rfl (fun g3 => ?_))
  refine wl_v (ov_assign rfl) rfl rfl rfl ?_
  refine wl_v (ov_assign rfl) rfl rfl rfl ?_
  refine wl_nil ?_
  refine ce_then ?_
  refine cw_seq ?_
  refine cw_seq ?_
  refine cw_region ?_
  refine wl_v (ov_loadAgg (vs := [.int .i64 (N), .slice A (es.length) (c)]) tI25 (holds_blk (List.Mem.tail _ (List.Mem.head _))) rfl some_lit rfl rfl) rfl rfl rfl ?_
  refine wl_r (or_call (fv := []) (vs := [.agg #[.int .i64 (N), .slice A (es.length) (c)]]) (cs := []) en43 rfl rfl (call_v (fun w hw => validGraphS_c w N A es.length c es ((holds_old oA) w hw) rfl lA (by first | assumption | omega | (simp; omega))))) rfl rfl (kt_if rfl (fun c7 => ?_) (fun c7 => ?_))
  ·
    refine wl_v (ov_not rfl) rfl rfl rfl ?_
    refine wl_v (ov_move rfl) rfl rfl rfl ?_
    refine wl_go rfl rfl ?_
    refine wl_v (ov_loadAgg (vs := [.int .i64 (M), .slice A2 (fs.length) (c2)]) tI25 (holds_blk (List.Mem.head _)) rfl some_lit rfl rfl) rfl rfl rfl ?_
    refine wl_go rfl rfl ?_
    refine wl_r (or_call (fv := []) (vs := [.agg #[.int .i64 (M), .slice A2 (fs.length) (c2)]]) (cs := []) en43 rfl rfl (call_v (fun w hw => validGraphS_c w M A2 fs.length c2 fs ((holds_old oA2) w hw) rfl lA2 (by first | assumption | omega | (simp; omega))))) rfl rfl (kt_if rfl (fun c11 => ?_) (fun c11 => ?_))
    ·
      refine wl_go rfl rfl ?_
      refine wl_v (ov_not rfl) rfl rfl rfl ?_
      refine wl_v (ov_pick_f rfl rfl) rfl rfl rfl ?_
      refine wl_v (ov_move rfl) rfl rfl rfl ?_
      refine wl_go rfl rfl ?_
      refine wl_v (ov_fieldAddr fI25_0 some_lit rfl) rfl rfl rfl ?_
      refine wl_go rfl rfl ?_
      refine wl_v (ov_load tI3 (holds_blk (List.Mem.tail _ (List.Mem.head _))) rfl rfl) rfl rfl rfl ?_
      refine wl_go rfl rfl ?_
      refine wl_v (ov_fieldAddr fI25_0 some_lit rfl) rfl rfl rfl ?_
      refine wl_go rfl rfl ?_
      refine wl_v (ov_load tI3 (holds_blk (List.Mem.head _)) rfl rfl) rfl rfl rfl ?_
      refine wl_go rfl rfl ?_
      refine wl_if (ov_neq rfl rfl) rfl rfl rfl (fun c19 => ?_) (fun c19 => ?_)
      ·
        have hv : mapV N es M fs = ([], false) := by rw [mapV, if_neg (fun h => c19 h.2.2.1)]
        refine ct_none fI 3 1 ?_
        refine wl_v (ov_pick_f rfl rfl) rfl rfl rfl ?_
        refine wl_v (ov_move rfl) rfl rfl rfl ?_
        refine wl_not rfl rfl rfl rfl rfl rfl ?_
        refine wl_not rfl rfl rfl rfl rfl rfl ?_
        refine wl_not rfl rfl rfl rfl rfl rfl ?_
        refine wl_v (ov_pick_t rfl rfl) rfl rfl rfl ?_
        refine wl_v (ov_move rfl) rfl rfl rfl ?_
        refine wl_not rfl rfl rfl rfl rfl rfl ?_
        refine wl_not rfl rfl rfl rfl rfl rfl ?_
        refine wl_not rfl rfl rfl rfl rfl rfl ?_
        refine wl_not rfl rfl rfl rfl rfl rfl ?_
        refine wl_v (ov_pick_t rfl rfl) rfl rfl rfl ?_
        refine wl_nil ?_
        refine ce_then ?_
        refine cw_true rfl ?_
        refine cw_seq ?_
        refine cw_region ?_
        refine wl_v (ov_assign rfl) rfl rfl rfl ?_
        refine wl_v (ov_assign rfl) rfl rfl rfl ?_
        refine wl_nil ?_
        refine ce_then ?_
        refine cw_ret ?_
        refine ce_then_ret ?_
        refine ce_results (v := .tuple #[.slice none (0) (0), .bool false]) (res2 rfl (rv_t rfl) (rv_t rfl)) (fun w' hw => ?_)
        exact ⟨none, 0, 0, (by rw [hv]; exact Nat.le_refl _), (by rw [hv] <;> rfl), ((.consE (show row 3 1 none (0) (0) (cells fI ([])) = row 3 1 none ((mapV N es M fs).1.length) (0) (cells fI ((mapV N es M fs).1)) by rw [hv] <;> rfl) (.head) (.nil) : Keep _ _).ss hw).to_new⟩
      ·
        refine wl_v (ov_pick_f rfl rfl) rfl rfl rfl ?_
        refine wl_v (ov_move rfl) rfl rfl rfl ?_
        refine wl_go rfl rfl ?_
        refine wl_v (ov_fieldAddr fI25_0 some_lit rfl) rfl rfl rfl ?_
        refine wl_go rfl rfl ?_
        refine wl_v (ov_load tI3 (holds_blk (List.Mem.tail _ (List.Mem.head _))) rfl rfl) rfl rfl rfl ?_
        refine wl_go rfl rfl ?_
        refine wl_if (ov_gtr rfl rfl) rfl rfl rfl (fun c24 => ?_) (fun c24 => ?_)
        ·
          have hv : mapV N es M fs = ([], false) := by rw [mapV, if_neg (fun h => by have := h.2.2.2; omega)]
          refine ct_none fI 3 1 ?_
          refine wl_v (ov_pick_f rfl rfl) rfl rfl rfl ?_
          refine wl_v (ov_move rfl) rfl rfl rfl ?_
          refine wl_not rfl rfl rfl rfl rfl rfl ?_
          refine wl_not rfl rfl rfl rfl rfl rfl ?_
          refine wl_not rfl rfl rfl rfl rfl rfl ?_
          refine wl_not rfl rfl rfl rfl rfl rfl ?_
          refine wl_v (ov_pick_t rfl rfl) rfl rfl rfl ?_
          refine wl_nil ?_
          refine ce_then ?_
          refine cw_true rfl ?_
          refine cw_seq ?_
          refine cw_region ?_
          refine wl_v (ov_assign rfl) rfl rfl rfl ?_
          refine wl_v (ov_assign rfl) rfl rfl rfl ?_
          refine wl_nil ?_
          refine ce_then ?_
          refine cw_ret ?_
          refine ce_then_ret ?_
          refine ce_results (v := .tuple #[.slice none (0) (0), .bool false]) (res2 rfl (rv_t rfl) (rv_t rfl)) (fun w' hw => ?_)
          exact ⟨none, 0, 0, (by rw [hv]; exact Nat.le_refl _), (by rw [hv] <;> rfl), ((.consE (show row 3 1 none (0) (0) (cells fI ([])) = row 3 1 none ((mapV N es M fs).1.length) (0) (cells fI ((mapV N es M fs).1)) by rw [hv] <;> rfl) (.head) (.nil) : Keep _ _).ss hw).to_new⟩
        ·
          refine wl_v (ov_pick_f rfl rfl) rfl rfl rfl ?_
          refine wl_v (ov_move rfl) rfl rfl rfl ?_
          obtain ⟨m, rfl⟩ := Int.eq_ofNat_of_zero_le (show 0 ≤ N from c7.2.1)
          obtain ⟨m2, rfl⟩ := Int.eq_ofNat_of_zero_le (show 0 ≤ M from c11.2.1)
          have he : m = m2 := by have := c19; omega
          have hg : Gr m es := by have h9 := c7.gr; rwa [Int.toNat_natCast] at h9
          have hf : Gr m fs := by have h9 := c11.gr; rwa [Int.toNat_natCast, ← he] at h9
          refine wl_go rfl rfl ?_
          refine wl_v (ov_loadAgg (vs := [.int .i64 (((m : Nat) : Int)), .slice A (es.length) (c)]) tI25 (holds_blk (List.Mem.tail _ (List.Mem.head _))) rfl some_lit rfl rfl) rfl rfl rfl ?_
          refine wl_go rfl rfl ?_
          refine wl_v (ov_loadAgg (vs := [.int .i64 (((m2 : Nat) : Int)), .slice A2 (fs.length) (c2)]) tI25 (holds_blk (List.Mem.head _)) rfl some_lit rfl rfl) rfl rfl rfl ?_
          refine wl_go rfl rfl ?_
          refine wl_r (or_call (fv := []) (vs := [.agg #[.int .i64 (((m : Nat) : Int)), .slice A (es.length) (c)], .agg #[.int .i64 (((m2 : Nat) : Int)), .slice A2 (fs.length) (c2)]]) (cs := []) en83 rfl rfl (call_v (fun w hw => alike_c w m A es.length c es m2 A2 fs.length c2 fs ((holds_old oA) w hw) rfl lA ((holds_old oA2) w hw) rfl lA2 (by first | assumption | omega | (simp; omega)) (by first | assumption | omega | (simp; omega)) (by first | assumption | omega | (simp; omega)) (by first | assumption | omega | (simp; omega))))) rfl rfl (kt_if rfl (fun c29 => ?_) (fun c29 => ?_))
          ·
            have hv : mapV ((m : Nat) : Int) es ((m2 : Nat) : Int) fs = ((mapI es fs m m []).getD [], (mapI es fs m m []).isSome) := by rw [mapV, if_pos ⟨c7, c11, by omega, by omega⟩, Int.toNat_natCast]
            have hq := mapI_eq hg hf (k := m) (okT_nil m) (by simp) cons_nil
            refine wl_go rfl rfl ?_
            refine wl_v (ov_not rfl) rfl rfl rfl ?_
            refine wl_v (ov_pick_f rfl rfl) rfl rfl rfl ?_
            refine wl_nil ?_
            refine ce_then ?_
            refine cw_false rfl ?_
            refine cw_skip ?_
            refine ce_then ?_
            refine cw_seq ?_
            refine cw_region ?_
            refine wl_v (ov_loadAgg (vs := [.int .i64 (((m : Nat) : Int)), .slice A (es.length) (c)]) tI25 (holds_blk (List.Mem.tail _ (List.Mem.head _))) rfl some_lit rfl rfl) rfl rfl rfl ?_
            refine wl_v (ov_loadAgg (vs := [.int .i64 (((m2 : Nat) : Int)), .slice A2 (fs.length) (c2)]) tI25 (holds_blk (List.Mem.head _)) rfl some_lit rfl rfl) rfl rfl rfl ?_
            refine wl_r (or_buildSlice (e := 3) (size := 1) (is := []) (vs := []) (cs := cells fI ([])) rfl rfl rfl (by decide) (fun _ => by kernel_rfl)) rfl rfl (kt1 rfl (fun g34 => ?_))
            refine wl_r (or_call (fv := []) (vs := [.agg #[.int .i64 (((m : Nat) : Int)), .slice A (es.length) (c)], .agg #[.int .i64 (((m2 : Nat) : Int)), .slice A2 (fs.length) (c2)], .slice (some ⟨g34, 0, none⟩) (0) (0)]) (cs := []) en84 rfl rfl (call_o (.cons (.head) (.cons (.head) (.cons (.head) (.nil)))) (fun w hw => findMap_c w _ _ _ m A es.length c es m2 A2 fs.length c2 fs (some ⟨g34, 0, none⟩) 0 0 ([]) (holds_old oA) (by first | rfl | assumption | (simp; done) | (simp; omega)) lA (holds_old oA2) (by first | rfl | assumption | (simp; done) | (simp; omega)) lA2 (Nat.le_refl _) rfl (okT_nil _) (by first | assumption | omega | (simp; omega)) (by first | assumption | omega | (simp; omega)) (by first | assumption | omega | (simp; omega)) (by first | assumption | omega | (simp; omega)) hw))) rfl rfl (kt3p rfl (fun A2_35 c2_35 rs_35 h_35 => ?_))
            obtain ⟨x, hx⟩ := Option.isSome_iff_exists.1 c29
            have hms : mapS es fs m (m - 0) [] = some x := hq.symm.trans hx
            have hrs : rs_35 = x := h_35.1 x hms
            rw [hx] at hv
            refine wl_v (ov_extract rfl rfl) rfl rfl rfl ?_
            refine wl_v (ov_extract rfl rfl) rfl rfl rfl ?_
            refine wl_v (ov_assign rfl) rfl rfl rfl ?_
            refine wl_v (ov_assign rfl) rfl rfl rfl ?_
            refine wl_nil ?_
            refine ce_then ?_
            refine cw_ret ?_
            refine ce_results (v := .tuple #[.slice A2_35 (rs_35.length) (c2_35), .bool ((mapS es fs m (m - 0) ([])).isSome)]) (res2 rfl (rv_t rfl) (rv_t rfl)) (fun w' hw => ?_)
            exact ⟨A2_35, c2_35, c2_35, (by rw [hv]; have := h_35.2; rw [hrs] at this; exact this), (by rw [hv, hms, hrs] <;> rfl), ((.consE (show row 3 1 A2_35 (rs_35.length) (c2_35) (cells fI rs_35) = row 3 1 A2_35 ((mapV ((m : Nat) : Int) es ((m2 : Nat) : Int) fs).1.length) (c2_35) (cells fI ((mapV ((m : Nat) : Int) es ((m2 : Nat) : Int) fs).1)) by rw [hv, hrs] <;> rfl) (.head) (.nil) : Keep _ _).ss hw).to_new⟩
          ·
            have hv : mapV ((m : Nat) : Int) es ((m2 : Nat) : Int) fs = ((mapI es fs m m []).getD [], (mapI es fs m m []).isSome) := by rw [mapV, if_pos ⟨c7, c11, by omega, by omega⟩, Int.toNat_natCast]
            rw [show mapI es fs m m [] = none from by simpa using c29] at hv
            refine ct_none fI 3 1 ?_
            refine wl_go rfl rfl ?_
            refine wl_v (ov_not rfl) rfl rfl rfl ?_
            refine wl_v (ov_pick_f rfl rfl) rfl rfl rfl ?_
            refine wl_nil ?_
            refine ce_then ?_
            refine cw_true rfl ?_
            refine cw_seq ?_
            refine cw_region ?_
            refine wl_v (ov_assign rfl) rfl rfl rfl ?_
            refine wl_v (ov_assign rfl) rfl rfl rfl ?_
            refine wl_nil ?_
            refine ce_then ?_
            refine cw_ret ?_
            refine ce_then_ret ?_
            refine ce_results (v := .tuple #[.slice none (0) (0), .bool false]) (res2 rfl (rv_t rfl) (rv_t rfl)) (fun w' hw => ?_)
            exact ⟨none, 0, 0, (by rw [hv]; exact Nat.le_refl _), (by rw [hv] <;> rfl), ((.consE (show row 3 1 none (0) (0) (cells fI ([])) = row 3 1 none ((mapV ((m : Nat) : Int) es ((m2 : Nat) : Int) fs).1.length) (0) (cells fI ((mapV ((m : Nat) : Int) es ((m2 : Nat) : Int) fs).1)) by rw [hv] <;> rfl) (.head) (.nil) : Keep _ _).ss hw).to_new⟩
    ·
      have hv : mapV N es M fs = ([], false) := by rw [mapV, if_neg (fun h => c11 h.2.1)]
      refine ct_none fI 3 1 ?_
      refine wl_go rfl rfl ?_
      refine wl_v (ov_not rfl) rfl rfl rfl ?_
      refine wl_v (ov_pick_f rfl rfl) rfl rfl rfl ?_
      refine wl_v (ov_move rfl) rfl rfl rfl ?_
      refine wl_not rfl rfl rfl rfl rfl rfl ?_
      refine wl_not rfl rfl rfl rfl rfl rfl ?_
      refine wl_not rfl rfl rfl rfl rfl rfl ?_
      refine wl_not rfl rfl rfl rfl rfl rfl ?_
      refine wl_not rfl rfl rfl rfl rfl rfl ?_
      refine wl_v (ov_pick_t rfl rfl) rfl rfl rfl ?_
      refine wl_v (ov_move rfl) rfl rfl rfl ?_
      refine wl_not rfl rfl rfl rfl rfl rfl ?_
      refine wl_not rfl rfl rfl rfl rfl rfl ?_
      refine wl_not rfl rfl rfl rfl rfl rfl ?_
      refine wl_v (ov_pick_t rfl rfl) rfl rfl rfl ?_
      refine wl_v (ov_move rfl) rfl rfl rfl ?_
      refine wl_not rfl rfl rfl rfl rfl rfl ?_
      refine wl_not rfl rfl rfl rfl rfl rfl ?_
      refine wl_not rfl rfl rfl rfl rfl rfl ?_
      refine wl_not rfl rfl rfl rfl rfl rfl ?_
      refine wl_v (ov_pick_t rfl rfl) rfl rfl rfl ?_
      refine wl_nil ?_
      refine ce_then ?_
      refine cw_true rfl ?_
      refine cw_seq ?_
      refine cw_region ?_
      refine wl_v (ov_assign rfl) rfl rfl rfl ?_
      refine wl_v (ov_assign rfl) rfl rfl rfl ?_
      refine wl_nil ?_
      refine ce_then ?_
      refine cw_ret ?_
      refine ce_then_ret ?_
      refine ce_results (v := .tuple #[.slice none (0) (0), .bool false]) (res2 rfl (rv_t rfl) (rv_t rfl)) (fun w' hw => ?_)
      exact ⟨none, 0, 0, (by rw [hv]; exact Nat.le_refl _), (by rw [hv] <;> rfl), ((.consE (show row 3 1 none (0) (0) (cells fI ([])) = row 3 1 none ((mapV N es M fs).1.length) (0) (cells fI ((mapV N es M fs).1)) by rw [hv] <;> rfl) (.head) (.nil) : Keep _ _).ss hw).to_new⟩
  ·
    have hv : mapV N es M fs = ([], false) := by rw [mapV, if_neg (fun h => c7 h.1)]
    refine ct_none fI 3 1 ?_
    refine wl_v (ov_not rfl) rfl rfl rfl ?_
    refine wl_v (ov_move rfl) rfl rfl rfl ?_
    refine wl_not rfl rfl rfl rfl rfl rfl ?_
    refine wl_not rfl rfl rfl rfl rfl rfl ?_
    refine wl_not rfl rfl rfl rfl rfl rfl ?_
    refine wl_v (ov_pick_t rfl rfl) rfl rfl rfl ?_
    refine wl_v (ov_move rfl) rfl rfl rfl ?_
    refine wl_not rfl rfl rfl rfl rfl rfl ?_
    refine wl_not rfl rfl rfl rfl rfl rfl ?_
    refine wl_not rfl rfl rfl rfl rfl rfl ?_
    refine wl_not rfl rfl rfl rfl rfl rfl ?_
    refine wl_not rfl rfl rfl rfl rfl rfl ?_
    refine wl_v (ov_pick_t rfl rfl) rfl rfl rfl ?_
    refine wl_v (ov_move rfl) rfl rfl rfl ?_
    refine wl_not rfl rfl rfl rfl rfl rfl ?_
    refine wl_not rfl rfl rfl rfl rfl rfl ?_
    refine wl_not rfl rfl rfl rfl rfl rfl ?_
    refine wl_v (ov_pick_t rfl rfl) rfl rfl rfl ?_
    refine wl_v (ov_move rfl) rfl rfl rfl ?_
    refine wl_not rfl rfl rfl rfl rfl rfl ?_
    refine wl_not rfl rfl rfl rfl rfl rfl ?_
    refine wl_not rfl rfl rfl rfl rfl rfl ?_
    refine wl_not rfl rfl rfl rfl rfl rfl ?_
    refine wl_v (ov_pick_t rfl rfl) rfl rfl rfl ?_
    refine wl_nil ?_
    refine ce_then ?_
    refine cw_true rfl ?_
    refine cw_seq ?_
    refine cw_region ?_
    refine wl_v (ov_assign rfl) rfl rfl rfl ?_
    refine wl_v (ov_assign rfl) rfl rfl rfl ?_
    refine wl_nil ?_
    refine ce_then ?_
    refine cw_ret ?_
    refine ce_then_ret ?_
    refine ce_results (v := .tuple #[.slice none (0) (0), .bool false]) (res2 rfl (rv_t rfl) (rv_t rfl)) (fun w' hw => ?_)
    exact ⟨none, 0, 0, (by rw [hv]; exact Nat.le_refl _), (by rw [hv] <;> rfl), ((.consE (show row 3 1 none (0) (0) (cells fI ([])) = row 3 1 none ((mapV N es M fs).1.length) (0) (cells fI ((mapV N es M fs).1)) by rw [hv] <;> rfl) (.head) (.nil) : Keep _ _).ss hw).to_new⟩
end Go.Proofs.Ytfjgfocjogfodaa.W15
