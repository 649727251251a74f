/- Walks of functions of the given program: each returns what its Lean function says and leaves the memory that was there as it was. Conditions: those of each theorem. -/
import Derived.Test.YtkkllkkjdbpjpaaSm
import Derived.Test.YtkkllkkjdbpjpaaProg
import Derived.Test.YtkkllkkjdbpjpaaPl
import Derived.Test.YtkkllkkjdbpjpaaPo
import Derived.Test.YtkkllkkjdbpjpaaPd
import Derived.Test.YtkkllkkjdbpjpaaPe
import Derived.Test.YtkkllkkjdbpjpaaPh
import Derived.Test.YtkkllkkjdbpjpaaPm
import Derived.Test.YtkkllkkjdbpjpaaPc
import Derived.Test.YtkkllkkjdbpjpaaPs
import Derived.Test.YtkkllkkjdbpjpaaPt
import Derived.Test.YtkkllkkjdbpjpaaPu
import Derived.Test.YtkkllkkjdbpjpaaPv
import Derived.Test.YtkkllkkjdbpjpaaPw
import Derived.Test.YtkkllkkjdbpjpaaPx
import Derived.Test.YtkkllkkjdbpjpaaPy
import Derived.Test.YtkkllkkjdbpjpaaPz
import Derived.Test.YtkkllkkjdbpjpaaPr
import Derived.Test.YtkkllkkjdbpjpaaPa
import Derived.Test.YtkkllkkjdbpjpaaPn
import Derived.Test.YtkkllkkjdbpjpaaPj
import Derived.Test.YtkkllkkjdbpjpaaPq
import Derived.Test.YtkkllkkjdbpjpaaSp
import Derived.Test.YtkkllkkjdbpjpaaPp
import Derived.Test.YtkkllkkjdbpjpaaSs
import Derived.Test.YtkkllkkjdbpjpaaSr
import Derived.Test.YtkkllkkjdbpjpaaPb
import Derived.Test.YtkkllkkjdbpjpaaSe
import Derived.Test.YtkkllkkjdbpjpaaSf
import Derived.Test.YtkkllkkjdbpjpaaT
import Derived.Test.YtkkllkkjdbpjpaaW1
import Derived.Test.YtkkllkkjdbpjpaaW5
import Derived.Test.YtkkllkkjdbpjpaaW11
import Derived.Test.YtkkllkkjdbpjpaaW44
import Derived.KernelRfl
namespace Go.Proofs.Ytkkllkkjdbpjpaa.W56
open Go.Sx Go.RowKit Go.Proofs.Ytkkllkkjdbpjpaa.T Go.Proofs.Ytkkllkkjdbpjpaa.W1 Go.Proofs.Ytkkllkkjdbpjpaa.W5 Go.Proofs.Ytkkllkkjdbpjpaa.W11 Go.Proofs.Ytkkllkkjdbpjpaa.W44
open Go.Plain
set_option linter.unusedVariables false
set_option maxRecDepth 100000 in
theorem codeOfS_c (w : World) (m : Nat) (A : Option Addr) (n : Nat) (c : Nat) (es : List (Int × Int)) (hA : At w A (cells fE es)) (eA : es.length = n) (lA : n ≤ c) (hg : Gr m es) (hm : m ≤ 7) : Calls Try.prog 67 #[.agg #[.int .i64 (((m : Nat) : Int)), .slice A (n) (c)]] w (Ret fun rv w' => ∃ A2 k2 c2, ((codeM m es).2.1.length ≤ k2) ∧ rv = .tuple #[.string ((codeM m es).1), .slice A2 ((codeM m es).2.1.length) (k2), .bool ((codeM m es).2.2)] ∧ New w w' [row 3 1 A2 ((codeM m es).2.1.length) (c2) (cells fI ((codeM m es).2.1))]) := by
  have oA := hA.atB
  subst eA
  have hel := hg.len (by omega)
  refine fn_enter (args := [.agg #[.int .i64 (((m : Nat) : Int)), .slice A (es.length) (c)]]) Try.func67 rfl Try.ntmps67 rfl (SS.start w) ?_
  refine cw_seq ?_
  refine cw_region ?_
  refine wl_r (or_box rfl rfl) rfl rfl (kt1 rfl (fun g1 => ?_))
  refine wl_v (ov_assign rfl) rfl rfl rfl ?_
  refine wl_v (ov_assign rfl) rfl rfl rfl ?_
  refine wl_v (ov_assign rfl) rfl rfl rfl ?_
  refine wl_nil ?_
  refine ce_then ?_
  refine cw_seq ?_
  refine cw_region ?_
  refine wl_v (ov_assign rfl) rfl rfl rfl ?_
  refine wl_nil ?_
  refine ce_then ?_
  refine cw_seq ?_
  refine cw_region ?_
  refine wl_r (or_buildSlice (e := 3) (size := 1) (is := []) (vs := []) (cs := cells fI ([])) rfl rfl rfl (by decide) (fun _ => by kernel_rfl)) rfl rfl (kt1 rfl (fun g15 => ?_))
  refine wl_v (ov_assign rfl) rfl rfl rfl ?_
  refine wl_nil ?_
  refine ce_then ?_
  refine cw_seq ?_
  refine cw_region ?_
  refine wl_v (ov_loadAgg (vs := [.int .i64 (((m : Nat) : Int)), .slice A (es.length) (c)]) tI25 (holds_blk (List.Mem.tail _ (List.Mem.head _))) rfl some_lit rfl rfl) rfl rfl rfl ?_
  refine wl_r (or_alloc tI25 rfl) rfl rfl (kt1 rfl (fun g7 => ?_))
  refine wl_r0 (or_store_blk (vs := [.int .i64 (((m : Nat) : Int)), .slice A (es.length) (c)]) (cs' := [.int .i64 (((m : Nat) : Int)), .slice A (es.length) (c)]) (.head) tI25 rfl rfl rfl rfl (Nat.le_of_ble_eq_true rfl) rfl) rfl rfl (kn0 ?_)
  refine wl_nil ?_
  refine ce_then ?_
  refine cw_seq ?_
  refine ct_none fE 65 2 ?_
  refine cw_region ?_
  refine wl_r (or_buildSlice (e := 3) (size := 1) (is := []) (vs := []) (cs := cells fI ([])) rfl rfl rfl (by decide) (fun _ => by kernel_rfl)) rfl rfl (kt1 rfl (fun g17 => ?_))
  refine wl_v (ov_assign rfl) rfl rfl rfl ?_
  refine wl_nil ?_
  refine ce_then ?_
  refine cw_seq ?_
  refine cw_block ?_
  refine cw_loop11 (fun (j : Nat) (A6 : Option Addr) (c6 : Nat) (A8 : Option Addr) (c8 : Nat) (A7 : Option Addr) (c7 : Nat) (R : Option Addr) (nR : Nat) (cR : Nat) (ys : List Ed) => [(1, elp (some ⟨g1, 0, none⟩) (0)), (7, elp (some ⟨g7, 0, none⟩) (0)), (5, .string (bstr ((letsC m es j).reverse))), (6, .slice A6 (j) (c6)), (8, .slice A8 (j) (c8))]) (fun (j : Nat) (A6 : Option Addr) (c6 : Nat) (A8 : Option Addr) (c8 : Nat) (A7 : Option Addr) (c7 : Nat) (R : Option Addr) (nR : Nat) (cR : Nat) (ys : List Ed) => [row 3 1 A8 (j) (c8) (cells fI (goneC m es j)), row 65 2 R (nR) (cR) (cells fE ys), blk g7 [.int .i64 (((m : Nat) : Int)), .slice A7 ((nowE es (goneC m es j)).length) (c7)] 25, row 3 1 A6 (j) (c6) (cells fI ((goneC m es j).reverse)), blk g1 [.int .i64 (((m : Nat) : Int)), .slice A (es.length) (c)] 25]) (fun (j : Nat) (A6 : Option Addr) (c6 : Nat) (A8 : Option Addr) (c8 : Nat) (A7 : Option Addr) (c7 : Nat) (R : Option Addr) (nR : Nat) (cR : Nat) (ys : List Ed) => j ≤ m ∧ OkTo m es j ∧ j ≤ c6 ∧ j ≤ c8 ∧ (nowE es (goneC m es j)).length ≤ c7 ∧ ((A7 = R ∧ cells fE (nowE es (goneC m es j)) = cells fE ys) ∨ AtB w w.heap.size A7 (cells fE (nowE es (goneC m es j))))) (fun (j : Nat) (A6 : Option Addr) (c6 : Nat) (A8 : Option Addr) (c8 : Nat) (A7 : Option Addr) (c7 : Nat) (R : Option Addr) (nR : Nat) (cR : Nat) (ys : List Ed) => m - j) 0 (some ⟨g15, 0, none⟩) 0 (some ⟨g17, 0, none⟩) 0 A c none 0 0 ([]) ⟨by omega, fun i hi => absurd hi (Nat.not_lt_zero _), Nat.le_refl _, Nat.le_refl _, by rw [show goneC m es 0 = [] from rfl, nowE_nil]; exact lA, .inr (by rw [show goneC m es 0 = [] from rfl, nowE_nil]; exact oA)⟩ (.cons rfl (.cons rfl (.cons rfl (.cons rfl (.cons rfl (.nil)))))) (.consE (show row 3 1 (some ⟨g17, 0, none⟩) (0) (0) (cells fI ([])) = row 3 1 (some ⟨g17, 0, none⟩) (0) (0) (cells fI (goneC m es 0)) by rfl) (.head) (.consE (show row 65 2 none (0) (0) (cells fE ([])) = row 65 2 none (0) (0) (cells fE ([])) by rfl) (.head) (.consE (show blk g7 [.int .i64 (((m : Nat) : Int)), .slice A (es.length) (c)] 25 = blk g7 [.int .i64 (((m : Nat) : Int)), .slice A ((nowE es (goneC m es 0)).length) (c)] 25 by rw [show goneC m es 0 = [] from rfl, nowE_nil]) (.head) (.consE (show row 3 1 (some ⟨g15, 0, none⟩) (0) (0) (cells fI ([])) = row 3 1 (some ⟨g15, 0, none⟩) (0) (0) (cells fI ((goneC m es 0).reverse)) by rfl) (.head) (.cons (.head) (.nil)))))) ?_
  intro R0 j A6 c6 A8 c8 A7 c7 R nR cR ys hk hR0
  obtain ⟨hq1, hq2, hq3, hq4, hq5, hq6⟩ := hk
  have hnl := nowE_len es (goneC m es j)
  have hgl := goneC_length m es j
  have hdl := degs_length m (nowE es (goneC m es j))
  refine cw_seq ?_
  refine cw_seq ?_
  refine cw_region ?_
  refine wl_v (ov_move rfl) rfl rfl rfl ?_
  refine wl_v (ov_len (sliceI_spec sI38) rfl) rfl rfl rfl ?_
  refine wl_v (ov_fieldAddr fI25_0 some_lit rfl) rfl rfl rfl ?_
  refine wl_v (ov_load tI3 (holds_blk (List.Mem.tail _ (List.Mem.tail _ (List.Mem.tail _ (List.Mem.tail _ (List.Mem.head _)))))) rfl rfl) rfl rfl rfl ?_
  refine wl_if (ov_lss rfl rfl) rfl rfl rfl (fun c22 => ?_) (fun c22 => ?_)
  ·
    refine wl_nil ?_
    refine ce_then ?_
    refine cw_true rfl ?_
    refine cw_skip ?_
    refine ce_then ?_
    refine cw_block ?_
    refine cw_seq ?_
    refine cw_region ?_
    refine wl_v (ov_loadAgg (vs := [.int .i64 (((m : Nat) : Int)), .slice A7 ((nowE es (goneC m es j)).length) (c7)]) tI25 (holds_blk (List.Mem.tail _ (List.Mem.tail _ (List.Mem.head _)))) rfl some_lit rfl rfl) rfl rfl rfl ?_
    refine wl_r (or_call (fv := []) (vs := [.agg #[.int .i64 (((m : Nat) : Int)), .slice A7 ((nowE es (goneC m es j)).length) (c7)]]) (cs := []) en83 rfl rfl (call_x1 (fun w hw => degreesS_c w m A7 ((nowE es (goneC m es j)).length) c7 (nowE es (goneC m es j)) ((holds_or (List.Mem.tail _ (List.Mem.head _)) hq6) w hw) rfl hq5 (by omega) (by omega) (fun e he => hg.inr e (nowE_sub _ _ e he))))) rfl rfl (kt1p rfl (fun g_24 h_24 => ?_))
    refine wl_v (ov_assign rfl) rfl rfl rfl ?_
    refine wl_nil ?_
    refine ce_then ?_
    refine cw_seq ?_
    refine cw_region ?_
    refine wl_v (ov_fieldAddr fI25_0 some_lit rfl) rfl rfl rfl ?_
    refine wl_v (ov_load tI3 (holds_blk (List.Mem.tail _ (List.Mem.tail _ (List.Mem.tail _ (List.Mem.tail _ (List.Mem.tail _ (List.Mem.head _))))))) rfl rfl) rfl rfl rfl ?_
    refine wl_v (ov_move rfl) rfl rfl rfl ?_
    refine wl_v (ov_len (sliceI_spec sI38) rfl) rfl rfl rfl ?_
    refine wl_v (ov_sub (r := ((m - j : Nat) : Int)) rfl rfl (by omega) (by omega)) rfl rfl rfl ?_
    refine wl_v (ov_assign rfl) rfl rfl rfl ?_
    refine wl_nil ?_
    refine ce_then ?_
    refine cw_seq ?_
    refine cw_region ?_
    refine wl_v (ov_assign rfl) rfl rfl rfl ?_
    refine wl_nil ?_
    refine ce_then ?_
    refine cw_seq ?_
    refine cw_seq ?_
    refine cw_region ?_
    refine wl_v (ov_fieldAddr fI25_0 some_lit rfl) rfl rfl rfl ?_
    refine wl_v (ov_load tI3 (holds_blk (List.Mem.tail _ (List.Mem.tail _ (List.Mem.tail _ (List.Mem.tail _ (List.Mem.tail _ (List.Mem.head _))))))) rfl rfl) rfl rfl rfl ?_
    refine wl_v (ov_sub (r := ((m : Nat) : Int) - 1) rfl rfl rfl (by omega)) rfl rfl rfl ?_
    refine wl_v (ov_assign rfl) rfl rfl rfl ?_
    refine wl_nil ?_
    refine ce_then ?_
    refine cw_block ?_
    refine cw_loop1 (fun (u : Nat) => [(1, elp (some ⟨g1, 0, none⟩) (0)), (5, .string (bstr ((letsC m es j).reverse))), (6, .slice A6 (j) (c6)), (7, elp (some ⟨g7, 0, none⟩) (0)), (8, .slice A8 (j) (c8)), (9, .slice (some ⟨g_24, 0, none⟩) (m) (m)), (10, .int .i64 (((m - j : Nat) : Int))), (11, .int .i64 (-1)), (12, .int .i64 (((u : Nat) : Int) - 1))]) (fun (u : Nat) => [row 3 1 (some ⟨g_24, 0, none⟩) (m) (m) (cells fI (degs m (nowE es (goneC m es j)))), row 3 1 A8 (j) (c8) (cells fI (goneC m es j)), row 65 2 R (nR) (cR) (cells fE ys), blk g7 [.int .i64 (((m : Nat) : Int)), .slice A7 ((nowE es (goneC m es j)).length) (c7)] 25, row 3 1 A6 (j) (c6) (cells fI ((goneC m es j).reverse)), blk g1 [.int .i64 (((m : Nat) : Int)), .slice A (es.length) (c)] 25]) (fun (u : Nat) => u ≤ m ∧ ∀ i, u ≤ i → i < m → ¬ (((i : Nat) : Int) ∉ goneC m es j ∧ okC es (leftC m (goneC m es j)) (((m - j - 1 : Nat) : Nat) : Int) ((i : Nat) : Int))) (fun (u : Nat) => u) m ⟨Nat.le_refl _, fun i h1 h2 => absurd h2 (by omega)⟩ (.cons rfl (.cons rfl (.cons rfl (.cons rfl (.cons rfl (.cons rfl (.cons rfl (.cons rfl (.cons rfl (.nil)))))))))) (.cons (.head) (.cons (.head) (.cons (.head) (.cons (.head) (.cons (.head) (.cons (.head) (.nil))))))) ?_
    intro R1 u hk1 hR1
    obtain ⟨hu1, hu2⟩ := hk1
    refine cw_seq ?_
    refine cw_seq ?_
    refine cw_region ?_
    refine wl_v (ov_move rfl) rfl rfl rfl ?_
    refine wl_if (ov_geq rfl rfl) rfl rfl rfl (fun c34 => ?_) (fun c34 => ?_)
    ·
      obtain ⟨u1, hu⟩ : ∃ u1, u = u1 + 1 := ⟨u - 1, by omega⟩
      refine ct_keep (L' := [(1, elp (some ⟨g1, 0, none⟩) (0)), (5, .string (bstr ((letsC m es j).reverse))), (6, .slice A6 (j) (c6)), (7, elp (some ⟨g7, 0, none⟩) (0)), (8, .slice A8 (j) (c8)), (9, .slice (some ⟨g_24, 0, none⟩) (m) (m)), (10, .int .i64 (((m - j : Nat) : Int))), (11, .int .i64 (-1)), (12, .int .i64 (((u1 : Nat) : Int))), (33, .int .i64 (((u : Nat) : Int) - 1)), (34, .bool true)]) (.cons rfl (.cons rfl (.cons rfl (.cons rfl (.cons rfl (.cons rfl (.cons rfl (.cons rfl (.cons (congrArg (fun z => some (Value.int .i64 z)) (show (((u : Nat) : Int) - 1) = ((u1 : Nat) : Int) from (by omega))) (.cons rfl (.cons rfl (.nil)))))))))))) .refl ?_
      refine wl_nil ?_
      refine ce_then ?_
      refine cw_true rfl ?_
      refine cw_skip ?_
      refine ce_then ?_
      refine cw_seq ?_
      refine cw_block ?_
      refine cw_seq ?_
      refine cw_region ?_
      refine wl_v (ov_move rfl) rfl rfl rfl ?_
      refine wl_v (ov_move rfl) rfl rfl rfl ?_
      refine wl_r (or_call (fv := []) (vs := [.slice A8 (j) (c8), .int .i64 (((u1 : Nat) : Int))]) (cs := []) en86 rfl rfl (call_v (fun w hw => hasInt_c w A8 j c8 (goneC m es j) ((u1 : Nat) : Int) ((holds_row (List.Mem.tail _ (List.Mem.head _))) w hw) (goneC_length _ _ _) hq4 (by omega)))) rfl rfl (kt_if rfl (fun c39 => ?_) (fun c39 => ?_))
      ·
        refine wl_v (ov_not rfl) rfl rfl rfl ?_
        refine wl_v (ov_move rfl) rfl rfl rfl ?_
        refine wl_not rfl rfl rfl rfl rfl rfl ?_
        refine wl_not rfl rfl rfl rfl rfl rfl ?_
        refine wl_not rfl rfl rfl rfl rfl rfl ?_
        refine wl_not rfl rfl rfl rfl rfl rfl ?_
        refine wl_not rfl rfl rfl rfl rfl rfl ?_
        refine wl_not rfl rfl rfl rfl rfl rfl ?_
        refine wl_notu rfl rfl rfl rfl rfl ?_
        refine wl_notu rfl rfl rfl rfl rfl ?_
        refine wl_notu rfl rfl rfl rfl rfl ?_
        refine wl_notu rfl rfl rfl rfl rfl ?_
        refine wl_notu rfl rfl rfl rfl rfl ?_
        refine wl_notu rfl rfl rfl rfl rfl ?_
        refine wl_notu rfl rfl rfl rfl rfl ?_
        refine wl_not rfl rfl rfl rfl rfl rfl ?_
        refine wl_v (ov_pick_f rfl rfl) rfl rfl rfl ?_
        refine wl_nil ?_
        refine ce_then ?_
        refine cw_false rfl ?_
        refine cw_skip ?_
        refine ce_block ?_
        refine ce_then ?_
        refine cw_region ?_
        refine wl_v (ov_move rfl) rfl rfl rfl ?_
        refine wl_v (ov_sub (r := ((u1 : Nat) : Int) - 1) rfl rfl rfl (by omega)) rfl rfl rfl ?_
        refine wl_v (ov_assign rfl) rfl rfl rfl ?_
        refine wl_nil ?_
        exact fun ac_ w_ hs_ => hR1 u1 ⟨by omega, fun i h1 h2 => (Nat.eq_or_lt_of_le h1).elim (fun e h9 => h9.1 (by rw [← e]; exact c39)) (fun h3 => hu2 i (by omega) h2)⟩ (by omega) ac_ w_ (hs_.weaken (.cons rfl (.cons rfl (.cons rfl (.cons rfl (.cons rfl (.cons rfl (.cons rfl (.cons rfl (.cons rfl (.nil)))))))))) (.cons (.head) (.cons (.head) (.cons (.head) (.cons (.head) (.cons (.head) (.cons (.head) (.nil))))))))
      ·
        refine wl_v (ov_not rfl) rfl rfl rfl ?_
        refine wl_v (ov_move rfl) rfl rfl rfl ?_
        refine wl_go rfl rfl ?_
        refine wl_v (ov_move rfl) rfl rfl rfl ?_
        refine wl_go rfl rfl ?_
        refine wl_v (ov_move rfl) rfl rfl rfl ?_
        refine wl_go rfl rfl ?_
        refine wl_v (ov_index (k := u1) (c := m) sI38 tI3 rfl rfl (some_holds (q := u1 * 1) (holds_row (List.Mem.head _)) (by rw [cells_length fI_len]; have hlt : u1 < (degs m (nowE es (goneC m es j))).length := (by omega); omega)) (show u1 < m from (by omega))) rfl rfl rfl ?_
        refine wl_go rfl rfl ?_
        refine wl_v (ov_load tI3 (holds_row (List.Mem.head _)) rfl (get_fI (show u1 < (degs m (nowE es (goneC m es j))).length from (by omega)))) rfl rfl rfl ?_
        refine wl_go rfl rfl ?_
        refine wl_if (ov_eql rfl rfl) rfl rfl rfl (fun c46 => ?_) (fun c46 => ?_)
        ·
          have hpk : vC m es j = ((u1 : Nat) : Int) := by unfold vC; rw [show ((m : Nat) : Int) - 1 - ((j : Nat) : Int) = (((m - j - 1 : Nat) : Nat) : Int) from by omega]; exact spec_pick (by omega) c39 ((degs_ok hg (by omega) c39).2 (.inl c46)) (fun i h1 h2 => hu2 i (by omega) h2)
          refine wl_go rfl rfl ?_
          refine wl_v (ov_move rfl) rfl rfl rfl ?_
          refine wl_not rfl rfl rfl rfl rfl rfl ?_
          refine wl_not rfl rfl rfl rfl rfl rfl ?_
          refine wl_not rfl rfl rfl rfl rfl rfl ?_
          refine wl_not rfl rfl rfl rfl rfl rfl ?_
          refine wl_not rfl rfl rfl rfl rfl rfl ?_
          refine wl_not rfl rfl rfl rfl rfl rfl ?_
          refine wl_not rfl rfl rfl rfl rfl rfl ?_
          refine wl_go rfl rfl ?_
          refine wl_v (ov_pick_t rfl rfl) rfl rfl rfl ?_
          refine wl_v (ov_pick_t rfl rfl) rfl rfl rfl ?_
          refine wl_nil ?_
          refine ce_then ?_
          refine cw_true rfl ?_
          refine cw_seq ?_
          refine cw_region ?_
          refine wl_v (ov_move rfl) rfl rfl rfl ?_
          refine wl_v (ov_assign rfl) rfl rfl rfl ?_
          refine wl_nil ?_
          refine ce_then ?_
          refine cw_exit ?_
          refine ce_miss rfl ?_
          refine ce_then_exit ?_
          refine ce_then_exit ?_
          refine ce_hit ?_
          refine ce_then ?_
          refine cw_seq ?_
          refine cw_seq ?_
          refine cw_region ?_
          refine wl_v (ov_move rfl) rfl rfl rfl ?_
          refine wl_if (ov_lss rfl rfl) rfl rfl rfl (fun c59 => ?_) (fun c59 => ?_)
          ·
            (exfalso; omega)
          ·
            refine wl_nil ?_
            refine ce_then ?_
            refine cw_false rfl ?_
            refine cw_skip ?_
            refine ce_then ?_
            refine cw_seq ?_
            refine cw_region ?_
            refine wl_v (ov_assign rfl) rfl rfl rfl ?_
            refine wl_nil ?_
            refine ce_then ?_
            refine cw_seq ?_
            refine cw_seq ?_
            refine cw_region ?_
            refine wl_v (ov_move rfl) rfl rfl rfl ?_
            refine wl_v (ov_move rfl) rfl rfl rfl ?_
            refine wl_v (ov_index (k := u1) (c := m) sI38 tI3 rfl rfl (some_holds (q := u1 * 1) (holds_row (List.Mem.head _)) (by rw [cells_length fI_len]; have hlt : u1 < (degs m (nowE es (goneC m es j))).length := (by omega); omega)) (show u1 < m from (by omega))) rfl rfl rfl ?_
            refine wl_v (ov_load tI3 (holds_row (List.Mem.head _)) rfl (get_fI (show u1 < (degs m (nowE es (goneC m es j))).length from (by omega)))) rfl rfl rfl ?_
            refine wl_if (ov_gtr rfl rfl) rfl rfl rfl (fun c64 => ?_) (fun c64 => ?_)
            ·
              have hlet : letC m es j = 100 := by unfold letC; rw [hpk, if_pos (by rw [← degs_now hg (by omega) c39]; exact c64)]
              refine wl_nil ?_
              refine ce_then ?_
              refine cw_true rfl ?_
              refine cw_region ?_
              refine wl_v (ov_assign rfl) rfl rfl rfl ?_
              refine wl_nil ?_
              refine ce_then ?_
              refine cw_seq ?_
              refine cw_region ?_
              refine wl_v (ov_move rfl) rfl rfl rfl ?_
              refine wl_v (ov_move rfl) rfl rfl rfl ?_
              refine wl_v (ov_adds (r := bstr (([100]) ++ ((letsC m es j).reverse))) rfl rfl (bstr_append _ _) (by show 1 + ((letsC m es j).reverse).length ≤ 1000000; rw [List.length_reverse, letsC_length]; omega)) rfl rfl rfl ?_
              refine wl_v (ov_assign rfl) rfl rfl rfl ?_
              refine wl_nil ?_
              refine ce_then ?_
              refine cw_seq ?_
              refine cw_region ?_
              refine wl_v (ov_move rfl) rfl rfl rfl ?_
              refine wl_r (or_buildSlice (e := 3) (size := 1) (is := [0]) (vs := [.int .i64 (((u1 : Nat) : Int))]) (cs := cells fI ([((u1 : Nat) : Int)])) rfl rfl rfl (by decide) (fun _ => by kernel_rfl)) rfl rfl (kt1 rfl (fun g69 => ?_))
              refine wl_v (ov_move rfl) rfl rfl rfl ?_
              refine wl_r (or_append (c2 := c6) sI38 tI3 rfl (by decide) rfl rfl (.head) (holds_row (List.Mem.tail _ (List.Mem.tail _ (List.Mem.tail _ (List.Mem.tail _ (List.Mem.tail _ (List.Mem.head _))))))) ((by rw [cells_length fI_len, List.length_reverse, hgl])) (one_cells fI_one _) cells_append (by omega) (by omega)) rfl rfl (kt2p rfl (fun A71 c71 h71 => ?_))
              refine wl_v (ov_assign rfl) rfl rfl rfl ?_
              refine wl_nil ?_
              refine ce_then ?_
              refine cw_seq ?_
              refine cw_region ?_
              refine wl_v (ov_move rfl) rfl rfl rfl ?_
              refine wl_v (ov_move rfl) rfl rfl rfl ?_
              refine wl_r (or_buildSlice (e := 3) (size := 1) (is := [0]) (vs := [.int .i64 (((u1 : Nat) : Int))]) (cs := cells fI ([((u1 : Nat) : Int)])) rfl rfl rfl (by decide) (fun _ => by kernel_rfl)) rfl rfl (kt1 rfl (fun g74 => ?_))
              refine wl_r (or_append (c2 := 1) sI38 tI3 rfl (by decide) rfl rfl (.tail (.tail (.tail .head))) (holds_row (List.Mem.head _)) (by rw [cells_length fI_len]; try simp) (one_cells fI_one _) cells_append (by omega) (by omega)) rfl rfl (kt2p rfl (fun A75 c75 h75 => ?_))
              refine wl_v (ov_assign rfl) rfl rfl rfl ?_
              refine wl_nil ?_
              refine ce_then ?_
              refine cw_seq ?_
              refine cw_region ?_
              refine wl_v (ov_assign rfl) rfl rfl rfl ?_
              refine wl_nil ?_
              refine ce_then ?_
              refine cw_block ?_
              refine cw_loop7 (fun (k : Nat) (A9 : Option Addr) (c9 : Nat) (R2 : Option Addr) (n2 : Nat) (c2 : Nat) (zs : List Ed) => [(1, elp (some ⟨g1, 0, none⟩) (0)), (5, .string (bstr (([100]) ++ ((letsC m es j).reverse)))), (6, .slice A71 (1 + j) (c71)), (7, elp (some ⟨g7, 0, none⟩) (0)), (8, .slice A75 (j + 1) (c75)), (11, .int .i64 (((u1 : Nat) : Int))), (14, .int .i64 (((k : Nat) : Int)))]) (fun (k : Nat) (A9 : Option Addr) (c9 : Nat) (R2 : Option Addr) (n2 : Nat) (c2 : Nat) (zs : List Ed) => [row 3 1 A75 (j + 1) (c75) (cells fI ((goneC m es j) ++ ([((u1 : Nat) : Int)]))), row 3 1 (some ⟨g74, 0, none⟩) (1) (1) (cells fI ([((u1 : Nat) : Int)])), row 3 1 A71 (1 + j) (c71) (cells fI (([((u1 : Nat) : Int)]) ++ ((goneC m es j).reverse))), row 3 1 (some ⟨g_24, 0, none⟩) (m) (m) (cells fI (degs m (nowE es (goneC m es j)))), row 65 2 R2 (n2) (c2) (cells fE zs), blk g7 [.int .i64 (((m : Nat) : Int)), .slice A9 ((dropTo (nowE es (goneC m es j)) ((u1 : Nat) : Int) k).length) (c9)] 25, row 3 1 A6 (j) (c6) (cells fI ((goneC m es j).reverse)), blk g1 [.int .i64 (((m : Nat) : Int)), .slice A (es.length) (c)] 25]) (fun (k : Nat) (A9 : Option Addr) (c9 : Nat) (R2 : Option Addr) (n2 : Nat) (c2 : Nat) (zs : List Ed) => k ≤ m ∧ (dropTo (nowE es (goneC m es j)) ((u1 : Nat) : Int) k).length ≤ c9 ∧ ((A9 = R2 ∧ cells fE (dropTo (nowE es (goneC m es j)) ((u1 : Nat) : Int) k) = cells fE zs) ∨ AtB w w.heap.size A9 (cells fE (dropTo (nowE es (goneC m es j)) ((u1 : Nat) : Int) k)))) (fun (k : Nat) (A9 : Option Addr) (c9 : Nat) (R2 : Option Addr) (n2 : Nat) (c2 : Nat) (zs : List Ed) => m - k) 0 A7 c7 R nR cR ys ⟨by omega, hq5, hq6⟩ (.cons rfl (.cons rfl (.cons rfl (.cons rfl (.cons rfl (.cons rfl (.cons (congrArg (fun z => some (Value.int .i64 z)) (show 0 = ((0 : Nat) : Int) by first | omega | rfl | (simp; done))) (.nil)))))))) (.cons (.head) (.cons (.head) (.cons (.head) (.cons (.head) (.consE (show row 65 2 R (nR) (cR) (cells fE ys) = row 65 2 R (nR) (cR) (cells fE ys) by rfl) (.head) (.consE (show blk g7 [.int .i64 (((m : Nat) : Int)), .slice A7 ((nowE es (goneC m es j)).length) (c7)] 25 = blk g7 [.int .i64 (((m : Nat) : Int)), .slice A7 ((dropTo (nowE es (goneC m es j)) ((u1 : Nat) : Int) 0).length) (c7)] 25 by rfl) (.head) (.cons (.head) (.cons (.head) (.nil))))))))) ?_
              intro R2 k A9 c9 R2 n2 c2 zs hk2 hR2
              obtain ⟨hw1, hw2, hw3⟩ := hk2
              have hdl2 := dropTo_len (nowE es (goneC m es j)) ((u1 : Nat) : Int) k
              refine cw_seq ?_
              refine cw_seq ?_
              refine cw_region ?_
              refine wl_v (ov_move rfl) rfl rfl rfl ?_
              refine wl_v (ov_fieldAddr fI25_0 some_lit rfl) rfl rfl rfl ?_
              refine wl_v (ov_load tI3 (holds_blk (List.Mem.tail _ (List.Mem.tail _ (List.Mem.tail _ (List.Mem.tail _ (List.Mem.tail _ (List.Mem.tail _ (List.Mem.tail _ (List.Mem.head _))))))))) rfl rfl) rfl rfl rfl ?_
              refine wl_if (ov_lss rfl rfl) rfl rfl rfl (fun c79 => ?_) (fun c79 => ?_)
              ·
                refine wl_nil ?_
                refine ce_then ?_
                refine cw_true rfl ?_
                refine cw_skip ?_
                refine ce_then ?_
                refine cw_seq ?_
                refine cw_block ?_
                refine cw_region ?_
                refine wl_v (ov_loadAgg (vs := [.int .i64 (((m : Nat) : Int)), .slice A9 ((dropTo (nowE es (goneC m es j)) ((u1 : Nat) : Int) k).length) (c9)]) tI25 (holds_blk (List.Mem.tail _ (List.Mem.tail _ (List.Mem.tail _ (List.Mem.tail _ (List.Mem.tail _ (List.Mem.head _))))))) rfl some_lit rfl rfl) rfl rfl rfl ?_
                refine wl_v (ov_move rfl) rfl rfl rfl ?_
                refine wl_v (ov_move rfl) rfl rfl rfl ?_
                refine wl_r (or_call (fv := []) (vs := [.agg #[.int .i64 (((m : Nat) : Int)), .slice A9 ((dropTo (nowE es (goneC m es j)) ((u1 : Nat) : Int) k).length) (c9)], .int .i64 (((u1 : Nat) : Int)), .int .i64 (((k : Nat) : Int))]) (cs := []) en88 rfl rfl (call_x2 (fun w hw => dropEdgeX_c w ((m : Nat) : Int) A9 ((dropTo (nowE es (goneC m es j)) ((u1 : Nat) : Int) k).length) c9 (dropTo (nowE es (goneC m es j)) ((u1 : Nat) : Int) k) ((u1 : Nat) : Int) ((k : Nat) : Int) ((holds_or (List.Mem.tail _ (List.Mem.tail _ (List.Mem.tail _ (List.Mem.tail _ (List.Mem.head _))))) hw3) w hw) rfl hw2 (by omega)))) rfl rfl (kt2p rfl (fun A2_85 c2_85 h_85 => ?_))
                refine wl_r0 (or_store_blk (vs := [.int .i64 (((m : Nat) : Int)), .slice A2_85 ((delE (dropTo (nowE es (goneC m es j)) ((u1 : Nat) : Int) k) ((u1 : Nat) : Int) ((k : Nat) : Int)).length) (c2_85)]) (cs' := [.int .i64 (((m : Nat) : Int)), .slice A2_85 ((delE (dropTo (nowE es (goneC m es j)) ((u1 : Nat) : Int) k) ((u1 : Nat) : Int) ((k : Nat) : Int)).length) (c2_85)]) (.tail (.tail (.tail (.tail (.tail (.tail .head)))))) tI25 rfl rfl rfl rfl (Nat.le_of_ble_eq_true rfl) rfl) rfl rfl (kn0 ?_)
                refine wl_nil ?_
                refine ce_block ?_
                refine ce_then ?_
                refine cw_region ?_
                refine wl_v (ov_move rfl) rfl rfl rfl ?_
                refine wl_v (ov_add (r := ((k + 1 : Nat) : Int)) rfl rfl rfl (by omega)) rfl rfl rfl ?_
                refine wl_v (ov_assign rfl) rfl rfl rfl ?_
                refine wl_nil ?_
                exact fun ac_ w_ hs_ => hR2 (k + 1) A2_85 c2_85 A2_85 ((delE (dropTo (nowE es (goneC m es j)) ((u1 : Nat) : Int) k) ((u1 : Nat) : Int) ((k : Nat) : Int)).length) c2_85 (delE (dropTo (nowE es (goneC m es j)) ((u1 : Nat) : Int) k) ((u1 : Nat) : Int) ((k : Nat) : Int)) ⟨by omega, h_85, .inl ⟨rfl, rfl⟩⟩ (by omega) ac_ w_ (hs_.weaken (.cons rfl (.cons rfl (.cons rfl (.cons rfl (.cons rfl (.cons rfl (.cons rfl (.nil)))))))) (.cons (.tail (.tail .head)) (.cons (.tail (.tail .head)) (.cons (.tail (.tail .head)) (.cons (.tail (.tail .head)) (.cons (.tail .head) (.consE (show blk g7 [.int .i64 (((m : Nat) : Int)), .slice A2_85 ((delE (dropTo (nowE es (goneC m es j)) ((u1 : Nat) : Int) k) ((u1 : Nat) : Int) ((k : Nat) : Int)).length) (c2_85)] 25 = blk g7 [.int .i64 (((m : Nat) : Int)), .slice A2_85 ((dropTo (nowE es (goneC m es j)) ((u1 : Nat) : Int) (k + 1)).length) (c2_85)] 25 by rfl) (.head) (.cons (.tail .head) (.cons (.tail .head) (.nil))))))))))
              ·
                have hnow : dropTo (nowE es (goneC m es j)) ((u1 : Nat) : Int) k = nowE es (goneC m es (j + 1)) := by rw [show k = m from by omega, dropTo_now hg _ (by omega), goneC_succ, hpk]
                refine wl_nil ?_
                refine ce_then ?_
                refine cw_false rfl ?_
                refine cw_exit ?_
                refine ce_then_exit ?_
                refine ce_then_exit ?_
                refine ce_hit ?_
                refine ce_block ?_
                exact fun ac_ w_ hs_ => hR0 (j + 1) A71 c71 A75 c75 A9 c9 R2 n2 c2 zs ⟨by omega, hq2.succ (by rw [hpk]; omega), by omega, by omega, by rw [← hnow]; exact hw2, by rw [← hnow]; exact hw3⟩ (by omega) ac_ w_ (hs_.weaken (.cons rfl (.cons rfl (.cons (congrArg (fun z => some (Value.string z)) (show bstr (([100]) ++ ((letsC m es j).reverse)) = bstr ((letsC m es (j + 1)).reverse) from (by rw [letsC_succ, List.reverse_append, hlet] <;> rfl))) (.cons (congrArg (fun z => some (Value.slice A71 z c71)) (show (1 + j) = (j + 1) from (by omega))) (.cons rfl (.nil)))))) (.consE (show row 3 1 A75 (j + 1) (c75) (cells fI ((goneC m es j) ++ ([((u1 : Nat) : Int)]))) = row 3 1 A75 ((j + 1)) (c75) (cells fI (goneC m es (j + 1))) by rw [goneC_succ, hpk]) (.head) (.cons (.tail (.tail (.tail .head))) (.consE (show blk g7 [.int .i64 (((m : Nat) : Int)), .slice A9 ((dropTo (nowE es (goneC m es j)) ((u1 : Nat) : Int) k).length) (c9)] 25 = blk g7 [.int .i64 (((m : Nat) : Int)), .slice A9 ((nowE es (goneC m es (j + 1))).length) (c9)] 25 by rw [← hnow]) (.tail (.tail (.tail .head))) (.consE (show row 3 1 A71 (1 + j) (c71) (cells fI (([((u1 : Nat) : Int)]) ++ ((goneC m es j).reverse))) = row 3 1 A71 ((j + 1)) (c71) (cells fI ((goneC m es (j + 1)).reverse)) by rw [goneC_succ, hpk, List.reverse_append, show 1 + j = j + 1 from by omega] <;> rfl) (.tail .head) (.cons (.tail (.tail (.tail .head))) (.nil)))))))
            ·
              have hlet : letC m es j = 105 := by unfold letC; rw [hpk, if_neg (by rw [← degs_now hg (by omega) c39]; exact c64)]
              refine wl_nil ?_
              refine ce_then ?_
              refine cw_false rfl ?_
              refine cw_skip ?_
              refine ce_then ?_
              refine cw_seq ?_
              refine cw_region ?_
              refine wl_v (ov_move rfl) rfl rfl rfl ?_
              refine wl_v (ov_move rfl) rfl rfl rfl ?_
              refine wl_v (ov_adds (r := bstr (([105]) ++ ((letsC m es j).reverse))) rfl rfl (bstr_append _ _) (by show 1 + ((letsC m es j).reverse).length ≤ 1000000; rw [List.length_reverse, letsC_length]; omega)) rfl rfl rfl ?_
              refine wl_v (ov_assign rfl) rfl rfl rfl ?_
              refine wl_nil ?_
              refine ce_then ?_
              refine cw_seq ?_
              refine cw_region ?_
              refine wl_v (ov_move rfl) rfl rfl rfl ?_
              refine wl_r (or_buildSlice (e := 3) (size := 1) (is := [0]) (vs := [.int .i64 (((u1 : Nat) : Int))]) (cs := cells fI ([((u1 : Nat) : Int)])) rfl rfl rfl (by decide) (fun _ => by kernel_rfl)) rfl rfl (kt1 rfl (fun g69 => ?_))
              refine wl_v (ov_move rfl) rfl rfl rfl ?_
              refine wl_r (or_append (c2 := c6) sI38 tI3 rfl (by decide) rfl rfl (.head) (holds_row (List.Mem.tail _ (List.Mem.tail _ (List.Mem.tail _ (List.Mem.tail _ (List.Mem.tail _ (List.Mem.head _))))))) ((by rw [cells_length fI_len, List.length_reverse, hgl])) (one_cells fI_one _) cells_append (by omega) (by omega)) rfl rfl (kt2p rfl (fun A71 c71 h71 => ?_))
              refine wl_v (ov_assign rfl) rfl rfl rfl ?_
              refine wl_nil ?_
              refine ce_then ?_
              refine cw_seq ?_
              refine cw_region ?_
              refine wl_v (ov_move rfl) rfl rfl rfl ?_
              refine wl_v (ov_move rfl) rfl rfl rfl ?_
              refine wl_r (or_buildSlice (e := 3) (size := 1) (is := [0]) (vs := [.int .i64 (((u1 : Nat) : Int))]) (cs := cells fI ([((u1 : Nat) : Int)])) rfl rfl rfl (by decide) (fun _ => by kernel_rfl)) rfl rfl (kt1 rfl (fun g74 => ?_))
              refine wl_r (or_append (c2 := 1) sI38 tI3 rfl (by decide) rfl rfl (.tail (.tail (.tail .head))) (holds_row (List.Mem.head _)) (by rw [cells_length fI_len]; try simp) (one_cells fI_one _) cells_append (by omega) (by omega)) rfl rfl (kt2p rfl (fun A75 c75 h75 => ?_))
              refine wl_v (ov_assign rfl) rfl rfl rfl ?_
              refine wl_nil ?_
              refine ce_then ?_
              refine cw_seq ?_
              refine cw_region ?_
              refine wl_v (ov_assign rfl) rfl rfl rfl ?_
              refine wl_nil ?_
              refine ce_then ?_
              refine cw_block ?_
              refine cw_loop7 (fun (k : Nat) (A9 : Option Addr) (c9 : Nat) (R2 : Option Addr) (n2 : Nat) (c2 : Nat) (zs : List Ed) => [(1, elp (some ⟨g1, 0, none⟩) (0)), (5, .string (bstr (([105]) ++ ((letsC m es j).reverse)))), (6, .slice A71 (1 + j) (c71)), (7, elp (some ⟨g7, 0, none⟩) (0)), (8, .slice A75 (j + 1) (c75)), (11, .int .i64 (((u1 : Nat) : Int))), (14, .int .i64 (((k : Nat) : Int)))]) (fun (k : Nat) (A9 : Option Addr) (c9 : Nat) (R2 : Option Addr) (n2 : Nat) (c2 : Nat) (zs : List Ed) => [row 3 1 A75 (j + 1) (c75) (cells fI ((goneC m es j) ++ ([((u1 : Nat) : Int)]))), row 3 1 (some ⟨g74, 0, none⟩) (1) (1) (cells fI ([((u1 : Nat) : Int)])), row 3 1 A71 (1 + j) (c71) (cells fI (([((u1 : Nat) : Int)]) ++ ((goneC m es j).reverse))), row 3 1 (some ⟨g_24, 0, none⟩) (m) (m) (cells fI (degs m (nowE es (goneC m es j)))), row 65 2 R2 (n2) (c2) (cells fE zs), blk g7 [.int .i64 (((m : Nat) : Int)), .slice A9 ((dropTo (nowE es (goneC m es j)) ((u1 : Nat) : Int) k).length) (c9)] 25, row 3 1 A6 (j) (c6) (cells fI ((goneC m es j).reverse)), blk g1 [.int .i64 (((m : Nat) : Int)), .slice A (es.length) (c)] 25]) (fun (k : Nat) (A9 : Option Addr) (c9 : Nat) (R2 : Option Addr) (n2 : Nat) (c2 : Nat) (zs : List Ed) => k ≤ m ∧ (dropTo (nowE es (goneC m es j)) ((u1 : Nat) : Int) k).length ≤ c9 ∧ ((A9 = R2 ∧ cells fE (dropTo (nowE es (goneC m es j)) ((u1 : Nat) : Int) k) = cells fE zs) ∨ AtB w w.heap.size A9 (cells fE (dropTo (nowE es (goneC m es j)) ((u1 : Nat) : Int) k)))) (fun (k : Nat) (A9 : Option Addr) (c9 : Nat) (R2 : Option Addr) (n2 : Nat) (c2 : Nat) (zs : List Ed) => m - k) 0 A7 c7 R nR cR ys ⟨by omega, hq5, hq6⟩ (.cons rfl (.cons rfl (.cons rfl (.cons rfl (.cons rfl (.cons rfl (.cons (congrArg (fun z => some (Value.int .i64 z)) (show 0 = ((0 : Nat) : Int) by first | omega | rfl | (simp; done))) (.nil)))))))) (.cons (.head) (.cons (.head) (.cons (.head) (.cons (.head) (.consE (show row 65 2 R (nR) (cR) (cells fE ys) = row 65 2 R (nR) (cR) (cells fE ys) by rfl) (.head) (.consE (show blk g7 [.int .i64 (((m : Nat) : Int)), .slice A7 ((nowE es (goneC m es j)).length) (c7)] 25 = blk g7 [.int .i64 (((m : Nat) : Int)), .slice A7 ((dropTo (nowE es (goneC m es j)) ((u1 : Nat) : Int) 0).length) (c7)] 25 by rfl) (.head) (.cons (.head) (.cons (.head) (.nil))))))))) ?_
              intro R2 k A9 c9 R2 n2 c2 zs hk2 hR2
              obtain ⟨hw1, hw2, hw3⟩ := hk2
              have hdl2 := dropTo_len (nowE es (goneC m es j)) ((u1 : Nat) : Int) k
              refine cw_seq ?_
              refine cw_seq ?_
              refine cw_region ?_
              refine wl_v (ov_move rfl) rfl rfl rfl ?_
              refine wl_v (ov_fieldAddr fI25_0 some_lit rfl) rfl rfl rfl ?_
              refine wl_v (ov_load tI3 (holds_blk (List.Mem.tail _ (List.Mem.tail _ (List.Mem.tail _ (List.Mem.tail _ (List.Mem.tail _ (List.Mem.tail _ (List.Mem.tail _ (List.Mem.head _))))))))) rfl rfl) rfl rfl rfl ?_
              refine wl_if (ov_lss rfl rfl) rfl rfl rfl (fun c79 => ?_) (fun c79 => ?_)
              ·
                refine wl_nil ?_
                refine ce_then ?_
                refine cw_true rfl ?_
                refine cw_skip ?_
                refine ce_then ?_
                refine cw_seq ?_
                refine cw_block ?_
                refine cw_region ?_
                refine wl_v (ov_loadAgg (vs := [.int .i64 (((m : Nat) : Int)), .slice A9 ((dropTo (nowE es (goneC m es j)) ((u1 : Nat) : Int) k).length) (c9)]) tI25 (holds_blk (List.Mem.tail _ (List.Mem.tail _ (List.Mem.tail _ (List.Mem.tail _ (List.Mem.tail _ (List.Mem.head _))))))) rfl some_lit rfl rfl) rfl rfl rfl ?_
                refine wl_v (ov_move rfl) rfl rfl rfl ?_
                refine wl_v (ov_move rfl) rfl rfl rfl ?_
                refine wl_r (or_call (fv := []) (vs := [.agg #[.int .i64 (((m : Nat) : Int)), .slice A9 ((dropTo (nowE es (goneC m es j)) ((u1 : Nat) : Int) k).length) (c9)], .int .i64 (((u1 : Nat) : Int)), .int .i64 (((k : Nat) : Int))]) (cs := []) en88 rfl rfl (call_x2 (fun w hw => dropEdgeX_c w ((m : Nat) : Int) A9 ((dropTo (nowE es (goneC m es j)) ((u1 : Nat) : Int) k).length) c9 (dropTo (nowE es (goneC m es j)) ((u1 : Nat) : Int) k) ((u1 : Nat) : Int) ((k : Nat) : Int) ((holds_or (List.Mem.tail _ (List.Mem.tail _ (List.Mem.tail _ (List.Mem.tail _ (List.Mem.head _))))) hw3) w hw) rfl hw2 (by omega)))) rfl rfl (kt2p rfl (fun A2_85 c2_85 h_85 => ?_))
                refine wl_r0 (or_store_blk (vs := [.int .i64 (((m : Nat) : Int)), .slice A2_85 ((delE (dropTo (nowE es (goneC m es j)) ((u1 : Nat) : Int) k) ((u1 : Nat) : Int) ((k : Nat) : Int)).length) (c2_85)]) (cs' := [.int .i64 (((m : Nat) : Int)), .slice A2_85 ((delE (dropTo (nowE es (goneC m es j)) ((u1 : Nat) : Int) k) ((u1 : Nat) : Int) ((k : Nat) : Int)).length) (c2_85)]) (.tail (.tail (.tail (.tail (.tail (.tail .head)))))) tI25 rfl rfl rfl rfl (Nat.le_of_ble_eq_true rfl) rfl) rfl rfl (kn0 ?_)
                refine wl_nil ?_
                refine ce_block ?_
                refine ce_then ?_
                refine cw_region ?_
                refine wl_v (ov_move rfl) rfl rfl rfl ?_
                refine wl_v (ov_add (r := ((k + 1 : Nat) : Int)) rfl rfl rfl (by omega)) rfl rfl rfl ?_
                refine wl_v (ov_assign rfl) rfl rfl rfl ?_
                refine wl_nil ?_
                exact fun ac_ w_ hs_ => hR2 (k + 1) A2_85 c2_85 A2_85 ((delE (dropTo (nowE es (goneC m es j)) ((u1 : Nat) : Int) k) ((u1 : Nat) : Int) ((k : Nat) : Int)).length) c2_85 (delE (dropTo (nowE es (goneC m es j)) ((u1 : Nat) : Int) k) ((u1 : Nat) : Int) ((k : Nat) : Int)) ⟨by omega, h_85, .inl ⟨rfl, rfl⟩⟩ (by omega) ac_ w_ (hs_.weaken (.cons rfl (.cons rfl (.cons rfl (.cons rfl (.cons rfl (.cons rfl (.cons rfl (.nil)))))))) (.cons (.tail (.tail .head)) (.cons (.tail (.tail .head)) (.cons (.tail (.tail .head)) (.cons (.tail (.tail .head)) (.cons (.tail .head) (.consE (show blk g7 [.int .i64 (((m : Nat) : Int)), .slice A2_85 ((delE (dropTo (nowE es (goneC m es j)) ((u1 : Nat) : Int) k) ((u1 : Nat) : Int) ((k : Nat) : Int)).length) (c2_85)] 25 = blk g7 [.int .i64 (((m : Nat) : Int)), .slice A2_85 ((dropTo (nowE es (goneC m es j)) ((u1 : Nat) : Int) (k + 1)).length) (c2_85)] 25 by rfl) (.head) (.cons (.tail .head) (.cons (.tail .head) (.nil))))))))))
              ·
                have hnow : dropTo (nowE es (goneC m es j)) ((u1 : Nat) : Int) k = nowE es (goneC m es (j + 1)) := by rw [show k = m from by omega, dropTo_now hg _ (by omega), goneC_succ, hpk]
                refine wl_nil ?_
                refine ce_then ?_
                refine cw_false rfl ?_
                refine cw_exit ?_
                refine ce_then_exit ?_
                refine ce_then_exit ?_
                refine ce_hit ?_
                refine ce_block ?_
                exact fun ac_ w_ hs_ => hR0 (j + 1) A71 c71 A75 c75 A9 c9 R2 n2 c2 zs ⟨by omega, hq2.succ (by rw [hpk]; omega), by omega, by omega, by rw [← hnow]; exact hw2, by rw [← hnow]; exact hw3⟩ (by omega) ac_ w_ (hs_.weaken (.cons rfl (.cons rfl (.cons (congrArg (fun z => some (Value.string z)) (show bstr (([105]) ++ ((letsC m es j).reverse)) = bstr ((letsC m es (j + 1)).reverse) from (by rw [letsC_succ, List.reverse_append, hlet] <;> rfl))) (.cons (congrArg (fun z => some (Value.slice A71 z c71)) (show (1 + j) = (j + 1) from (by omega))) (.cons rfl (.nil)))))) (.consE (show row 3 1 A75 (j + 1) (c75) (cells fI ((goneC m es j) ++ ([((u1 : Nat) : Int)]))) = row 3 1 A75 ((j + 1)) (c75) (cells fI (goneC m es (j + 1))) by rw [goneC_succ, hpk]) (.head) (.cons (.tail (.tail (.tail .head))) (.consE (show blk g7 [.int .i64 (((m : Nat) : Int)), .slice A9 ((dropTo (nowE es (goneC m es j)) ((u1 : Nat) : Int) k).length) (c9)] 25 = blk g7 [.int .i64 (((m : Nat) : Int)), .slice A9 ((nowE es (goneC m es (j + 1))).length) (c9)] 25 by rw [← hnow]) (.tail (.tail (.tail .head))) (.consE (show row 3 1 A71 (1 + j) (c71) (cells fI (([((u1 : Nat) : Int)]) ++ ((goneC m es j).reverse))) = row 3 1 A71 ((j + 1)) (c71) (cells fI ((goneC m es (j + 1)).reverse)) by rw [goneC_succ, hpk, List.reverse_append, show 1 + j = j + 1 from by omega] <;> rfl) (.tail .head) (.cons (.tail (.tail (.tail .head))) (.nil)))))))
        ·
          refine wl_go rfl rfl ?_
          refine wl_v (ov_move rfl) rfl rfl rfl ?_
          refine wl_go rfl rfl ?_
          refine wl_v (ov_move rfl) rfl rfl rfl ?_
          refine wl_go rfl rfl ?_
          refine wl_v (ov_move rfl) rfl rfl rfl ?_
          refine wl_go rfl rfl ?_
          refine wl_v (ov_index (k := u1) (c := m) sI38 tI3 rfl rfl (some_holds (q := u1 * 1) (holds_row (List.Mem.head _)) (by rw [cells_length fI_len]; have hlt : u1 < (degs m (nowE es (goneC m es j))).length := (by omega); omega)) (show u1 < m from (by omega))) rfl rfl rfl ?_
          refine wl_go rfl rfl ?_
          refine wl_v (ov_load tI3 (holds_row (List.Mem.head _)) rfl (get_fI (show u1 < (degs m (nowE es (goneC m es j))).length from (by omega)))) rfl rfl rfl ?_
          refine wl_go rfl rfl ?_
          refine wl_v (ov_move rfl) rfl rfl rfl ?_
          refine wl_go rfl rfl ?_
          refine wl_v (ov_sub (r := ((m - j - 1 : Nat) : Int)) rfl rfl (by omega) (by omega)) rfl rfl rfl ?_
          refine wl_go rfl rfl ?_
          refine wl_if (ov_eql rfl rfl) rfl rfl rfl (fun c54 => ?_) (fun c54 => ?_)
          ·
            have hpk : vC m es j = ((u1 : Nat) : Int) := by unfold vC; rw [show ((m : Nat) : Int) - 1 - ((j : Nat) : Int) = (((m - j - 1 : Nat) : Nat) : Int) from by omega]; exact spec_pick (by omega) c39 ((degs_ok hg (by omega) c39).2 (.inr c54)) (fun i h1 h2 => hu2 i (by omega) h2)
            refine wl_go rfl rfl ?_
            refine wl_v (ov_pick_f rfl rfl) rfl rfl rfl ?_
            refine wl_v (ov_pick_t rfl rfl) rfl rfl rfl ?_
            refine wl_nil ?_
            refine ce_then ?_
            refine cw_true rfl ?_
            refine cw_seq ?_
            refine cw_region ?_
            refine wl_v (ov_move rfl) rfl rfl rfl ?_
            refine wl_v (ov_assign rfl) rfl rfl rfl ?_
            refine wl_nil ?_
            refine ce_then ?_
            refine cw_exit ?_
            refine ce_miss rfl ?_
            refine ce_then_exit ?_
            refine ce_then_exit ?_
            refine ce_hit ?_
            refine ce_then ?_
            refine cw_seq ?_
            refine cw_seq ?_
            refine cw_region ?_
            refine wl_v (ov_move rfl) rfl rfl rfl ?_
            refine wl_if (ov_lss rfl rfl) rfl rfl rfl (fun c59 => ?_) (fun c59 => ?_)
            ·
              (exfalso; omega)
            ·
              refine wl_nil ?_
              refine ce_then ?_
              refine cw_false rfl ?_
              refine cw_skip ?_
              refine ce_then ?_
              refine cw_seq ?_
              refine cw_region ?_
              refine wl_v (ov_assign rfl) rfl rfl rfl ?_
              refine wl_nil ?_
              refine ce_then ?_
              refine cw_seq ?_
              refine cw_seq ?_
              refine cw_region ?_
              refine wl_v (ov_move rfl) rfl rfl rfl ?_
              refine wl_v (ov_move rfl) rfl rfl rfl ?_
              refine wl_v (ov_index (k := u1) (c := m) sI38 tI3 rfl rfl (some_holds (q := u1 * 1) (holds_row (List.Mem.head _)) (by rw [cells_length fI_len]; have hlt : u1 < (degs m (nowE es (goneC m es j))).length := (by omega); omega)) (show u1 < m from (by omega))) rfl rfl rfl ?_
              refine wl_v (ov_load tI3 (holds_row (List.Mem.head _)) rfl (get_fI (show u1 < (degs m (nowE es (goneC m es j))).length from (by omega)))) rfl rfl rfl ?_
              refine wl_if (ov_gtr rfl rfl) rfl rfl rfl (fun c64 => ?_) (fun c64 => ?_)
              ·
                have hlet : letC m es j = 100 := by unfold letC; rw [hpk, if_pos (by rw [← degs_now hg (by omega) c39]; exact c64)]
                refine wl_nil ?_
                refine ce_then ?_
                refine cw_true rfl ?_
                refine cw_region ?_
                refine wl_v (ov_assign rfl) rfl rfl rfl ?_
                refine wl_nil ?_
                refine ce_then ?_
                refine cw_seq ?_
                refine cw_region ?_
                refine wl_v (ov_move rfl) rfl rfl rfl ?_
                refine wl_v (ov_move rfl) rfl rfl rfl ?_
                refine wl_v (ov_adds (r := bstr (([100]) ++ ((letsC m es j).reverse))) rfl rfl (bstr_append _ _) (by show 1 + ((letsC m es j).reverse).length ≤ 1000000; rw [List.length_reverse, letsC_length]; omega)) rfl rfl rfl ?_
                refine wl_v (ov_assign rfl) rfl rfl rfl ?_
                refine wl_nil ?_
                refine ce_then ?_
                refine cw_seq ?_
                refine cw_region ?_
                refine wl_v (ov_move rfl) rfl rfl rfl ?_
                refine wl_r (or_buildSlice (e := 3) (size := 1) (is := [0]) (vs := [.int .i64 (((u1 : Nat) : Int))]) (cs := cells fI ([((u1 : Nat) : Int)])) rfl rfl rfl (by decide) (fun _ => by kernel_rfl)) rfl rfl (kt1 rfl (fun g69 => ?_))
                refine wl_v (ov_move rfl) rfl rfl rfl ?_
                refine wl_r (or_append (c2 := c6) sI38 tI3 rfl (by decide) rfl rfl (.head) (holds_row (List.Mem.tail _ (List.Mem.tail _ (List.Mem.tail _ (List.Mem.tail _ (List.Mem.tail _ (List.Mem.head _))))))) ((by rw [cells_length fI_len, List.length_reverse, hgl])) (one_cells fI_one _) cells_append (by omega) (by omega)) rfl rfl (kt2p rfl (fun A71 c71 h71 => ?_))
                refine wl_v (ov_assign rfl) rfl rfl rfl ?_
                refine wl_nil ?_
                refine ce_then ?_
                refine cw_seq ?_
                refine cw_region ?_
                refine wl_v (ov_move rfl) rfl rfl rfl ?_
                refine wl_v (ov_move rfl) rfl rfl rfl ?_
                refine wl_r (or_buildSlice (e := 3) (size := 1) (is := [0]) (vs := [.int .i64 (((u1 : Nat) : Int))]) (cs := cells fI ([((u1 : Nat) : Int)])) rfl rfl rfl (by decide) (fun _ => by kernel_rfl)) rfl rfl (kt1 rfl (fun g74 => ?_))
                refine wl_r (or_append (c2 := 1) sI38 tI3 rfl (by decide) rfl rfl (.tail (.tail (.tail .head))) (holds_row (List.Mem.head _)) (by rw [cells_length fI_len]; try simp) (one_cells fI_one _) cells_append (by omega) (by omega)) rfl rfl (kt2p rfl (fun A75 c75 h75 => ?_))
                refine wl_v (ov_assign rfl) rfl rfl rfl ?_
                refine wl_nil ?_
                refine ce_then ?_
                refine cw_seq ?_
                refine cw_region ?_
                refine wl_v (ov_assign rfl) rfl rfl rfl ?_
                refine wl_nil ?_
                refine ce_then ?_
                refine cw_block ?_
                refine cw_loop7 (fun (k : Nat) (A9 : Option Addr) (c9 : Nat) (R2 : Option Addr) (n2 : Nat) (c2 : Nat) (zs : List Ed) => [(1, elp (some ⟨g1, 0, none⟩) (0)), (5, .string (bstr (([100]) ++ ((letsC m es j).reverse)))), (6, .slice A71 (1 + j) (c71)), (7, elp (some ⟨g7, 0, none⟩) (0)), (8, .slice A75 (j + 1) (c75)), (11, .int .i64 (((u1 : Nat) : Int))), (14, .int .i64 (((k : Nat) : Int)))]) (fun (k : Nat) (A9 : Option Addr) (c9 : Nat) (R2 : Option Addr) (n2 : Nat) (c2 : Nat) (zs : List Ed) => [row 3 1 A75 (j + 1) (c75) (cells fI ((goneC m es j) ++ ([((u1 : Nat) : Int)]))), row 3 1 (some ⟨g74, 0, none⟩) (1) (1) (cells fI ([((u1 : Nat) : Int)])), row 3 1 A71 (1 + j) (c71) (cells fI (([((u1 : Nat) : Int)]) ++ ((goneC m es j).reverse))), row 3 1 (some ⟨g_24, 0, none⟩) (m) (m) (cells fI (degs m (nowE es (goneC m es j)))), row 65 2 R2 (n2) (c2) (cells fE zs), blk g7 [.int .i64 (((m : Nat) : Int)), .slice A9 ((dropTo (nowE es (goneC m es j)) ((u1 : Nat) : Int) k).length) (c9)] 25, row 3 1 A6 (j) (c6) (cells fI ((goneC m es j).reverse)), blk g1 [.int .i64 (((m : Nat) : Int)), .slice A (es.length) (c)] 25]) (fun (k : Nat) (A9 : Option Addr) (c9 : Nat) (R2 : Option Addr) (n2 : Nat) (c2 : Nat) (zs : List Ed) => k ≤ m ∧ (dropTo (nowE es (goneC m es j)) ((u1 : Nat) : Int) k).length ≤ c9 ∧ ((A9 = R2 ∧ cells fE (dropTo (nowE es (goneC m es j)) ((u1 : Nat) : Int) k) = cells fE zs) ∨ AtB w w.heap.size A9 (cells fE (dropTo (nowE es (goneC m es j)) ((u1 : Nat) : Int) k)))) (fun (k : Nat) (A9 : Option Addr) (c9 : Nat) (R2 : Option Addr) (n2 : Nat) (c2 : Nat) (zs : List Ed) => m - k) 0 A7 c7 R nR cR ys ⟨by omega, hq5, hq6⟩ (.cons rfl (.cons rfl (.cons rfl (.cons rfl (.cons rfl (.cons rfl (.cons (congrArg (fun z => some (Value.int .i64 z)) (show 0 = ((0 : Nat) : Int) by first | omega | rfl | (simp; done))) (.nil)))))))) (.cons (.head) (.cons (.head) (.cons (.head) (.cons (.head) (.consE (show row 65 2 R (nR) (cR) (cells fE ys) = row 65 2 R (nR) (cR) (cells fE ys) by rfl) (.head) (.consE (show blk g7 [.int .i64 (((m : Nat) : Int)), .slice A7 ((nowE es (goneC m es j)).length) (c7)] 25 = blk g7 [.int .i64 (((m : Nat) : Int)), .slice A7 ((dropTo (nowE es (goneC m es j)) ((u1 : Nat) : Int) 0).length) (c7)] 25 by rfl) (.head) (.cons (.head) (.cons (.head) (.nil))))))))) ?_
                intro R2 k A9 c9 R2 n2 c2 zs hk2 hR2
                obtain ⟨hw1, hw2, hw3⟩ := hk2
                have hdl2 := dropTo_len (nowE es (goneC m es j)) ((u1 : Nat) : Int) k
                refine cw_seq ?_
                refine cw_seq ?_
                refine cw_region ?_
                refine wl_v (ov_move rfl) rfl rfl rfl ?_
                refine wl_v (ov_fieldAddr fI25_0 some_lit rfl) rfl rfl rfl ?_
                refine wl_v (ov_load tI3 (holds_blk (List.Mem.tail _ (List.Mem.tail _ (List.Mem.tail _ (List.Mem.tail _ (List.Mem.tail _ (List.Mem.tail _ (List.Mem.tail _ (List.Mem.head _))))))))) rfl rfl) rfl rfl rfl ?_
                refine wl_if (ov_lss rfl rfl) rfl rfl rfl (fun c79 => ?_) (fun c79 => ?_)
                ·
                  refine wl_nil ?_
                  refine ce_then ?_
                  refine cw_true rfl ?_
                  refine cw_skip ?_
                  refine ce_then ?_
                  refine cw_seq ?_
                  refine cw_block ?_
                  refine cw_region ?_
                  refine wl_v (ov_loadAgg (vs := [.int .i64 (((m : Nat) : Int)), .slice A9 ((dropTo (nowE es (goneC m es j)) ((u1 : Nat) : Int) k).length) (c9)]) tI25 (holds_blk (List.Mem.tail _ (List.Mem.tail _ (List.Mem.tail _ (List.Mem.tail _ (List.Mem.tail _ (List.Mem.head _))))))) rfl some_lit rfl rfl) rfl rfl rfl ?_
                  refine wl_v (ov_move rfl) rfl rfl rfl ?_
                  refine wl_v (ov_move rfl) rfl rfl rfl ?_
                  refine wl_r (or_call (fv := []) (vs := [.agg #[.int .i64 (((m : Nat) : Int)), .slice A9 ((dropTo (nowE es (goneC m es j)) ((u1 : Nat) : Int) k).length) (c9)], .int .i64 (((u1 : Nat) : Int)), .int .i64 (((k : Nat) : Int))]) (cs := []) en88 rfl rfl (call_x2 (fun w hw => dropEdgeX_c w ((m : Nat) : Int) A9 ((dropTo (nowE es (goneC m es j)) ((u1 : Nat) : Int) k).length) c9 (dropTo (nowE es (goneC m es j)) ((u1 : Nat) : Int) k) ((u1 : Nat) : Int) ((k : Nat) : Int) ((holds_or (List.Mem.tail _ (List.Mem.tail _ (List.Mem.tail _ (List.Mem.tail _ (List.Mem.head _))))) hw3) w hw) rfl hw2 (by omega)))) rfl rfl (kt2p rfl (fun A2_85 c2_85 h_85 => ?_))
                  refine wl_r0 (or_store_blk (vs := [.int .i64 (((m : Nat) : Int)), .slice A2_85 ((delE (dropTo (nowE es (goneC m es j)) ((u1 : Nat) : Int) k) ((u1 : Nat) : Int) ((k : Nat) : Int)).length) (c2_85)]) (cs' := [.int .i64 (((m : Nat) : Int)), .slice A2_85 ((delE (dropTo (nowE es (goneC m es j)) ((u1 : Nat) : Int) k) ((u1 : Nat) : Int) ((k : Nat) : Int)).length) (c2_85)]) (.tail (.tail (.tail (.tail (.tail (.tail .head)))))) tI25 rfl rfl rfl rfl (Nat.le_of_ble_eq_true rfl) rfl) rfl rfl (kn0 ?_)
                  refine wl_nil ?_
                  refine ce_block ?_
                  refine ce_then ?_
                  refine cw_region ?_
                  refine wl_v (ov_move rfl) rfl rfl rfl ?_
                  refine wl_v (ov_add (r := ((k + 1 : Nat) : Int)) rfl rfl rfl (by omega)) rfl rfl rfl ?_
                  refine wl_v (ov_assign rfl) rfl rfl rfl ?_
                  refine wl_nil ?_
                  exact fun ac_ w_ hs_ => hR2 (k + 1) A2_85 c2_85 A2_85 ((delE (dropTo (nowE es (goneC m es j)) ((u1 : Nat) : Int) k) ((u1 : Nat) : Int) ((k : Nat) : Int)).length) c2_85 (delE (dropTo (nowE es (goneC m es j)) ((u1 : Nat) : Int) k) ((u1 : Nat) : Int) ((k : Nat) : Int)) ⟨by omega, h_85, .inl ⟨rfl, rfl⟩⟩ (by omega) ac_ w_ (hs_.weaken (.cons rfl (.cons rfl (.cons rfl (.cons rfl (.cons rfl (.cons rfl (.cons rfl (.nil)))))))) (.cons (.tail (.tail .head)) (.cons (.tail (.tail .head)) (.cons (.tail (.tail .head)) (.cons (.tail (.tail .head)) (.cons (.tail .head) (.consE (show blk g7 [.int .i64 (((m : Nat) : Int)), .slice A2_85 ((delE (dropTo (nowE es (goneC m es j)) ((u1 : Nat) : Int) k) ((u1 : Nat) : Int) ((k : Nat) : Int)).length) (c2_85)] 25 = blk g7 [.int .i64 (((m : Nat) : Int)), .slice A2_85 ((dropTo (nowE es (goneC m es j)) ((u1 : Nat) : Int) (k + 1)).length) (c2_85)] 25 by rfl) (.head) (.cons (.tail .head) (.cons (.tail .head) (.nil))))))))))
                ·
                  have hnow : dropTo (nowE es (goneC m es j)) ((u1 : Nat) : Int) k = nowE es (goneC m es (j + 1)) := by rw [show k = m from by omega, dropTo_now hg _ (by omega), goneC_succ, hpk]
                  refine wl_nil ?_
                  refine ce_then ?_
                  refine cw_false rfl ?_
                  refine cw_exit ?_
                  refine ce_then_exit ?_
                  refine ce_then_exit ?_
                  refine ce_hit ?_
                  refine ce_block ?_
                  exact fun ac_ w_ hs_ => hR0 (j + 1) A71 c71 A75 c75 A9 c9 R2 n2 c2 zs ⟨by omega, hq2.succ (by rw [hpk]; omega), by omega, by omega, by rw [← hnow]; exact hw2, by rw [← hnow]; exact hw3⟩ (by omega) ac_ w_ (hs_.weaken (.cons rfl (.cons rfl (.cons (congrArg (fun z => some (Value.string z)) (show bstr (([100]) ++ ((letsC m es j).reverse)) = bstr ((letsC m es (j + 1)).reverse) from (by rw [letsC_succ, List.reverse_append, hlet] <;> rfl))) (.cons (congrArg (fun z => some (Value.slice A71 z c71)) (show (1 + j) = (j + 1) from (by omega))) (.cons rfl (.nil)))))) (.consE (show row 3 1 A75 (j + 1) (c75) (cells fI ((goneC m es j) ++ ([((u1 : Nat) : Int)]))) = row 3 1 A75 ((j + 1)) (c75) (cells fI (goneC m es (j + 1))) by rw [goneC_succ, hpk]) (.head) (.cons (.tail (.tail (.tail .head))) (.consE (show blk g7 [.int .i64 (((m : Nat) : Int)), .slice A9 ((dropTo (nowE es (goneC m es j)) ((u1 : Nat) : Int) k).length) (c9)] 25 = blk g7 [.int .i64 (((m : Nat) : Int)), .slice A9 ((nowE es (goneC m es (j + 1))).length) (c9)] 25 by rw [← hnow]) (.tail (.tail (.tail .head))) (.consE (show row 3 1 A71 (1 + j) (c71) (cells fI (([((u1 : Nat) : Int)]) ++ ((goneC m es j).reverse))) = row 3 1 A71 ((j + 1)) (c71) (cells fI ((goneC m es (j + 1)).reverse)) by rw [goneC_succ, hpk, List.reverse_append, show 1 + j = j + 1 from by omega] <;> rfl) (.tail .head) (.cons (.tail (.tail (.tail .head))) (.nil)))))))
              ·
                have hlet : letC m es j = 105 := by unfold letC; rw [hpk, if_neg (by rw [← degs_now hg (by omega) c39]; exact c64)]
                refine wl_nil ?_
                refine ce_then ?_
                refine cw_false rfl ?_
                refine cw_skip ?_
                refine ce_then ?_
                refine cw_seq ?_
                refine cw_region ?_
                refine wl_v (ov_move rfl) rfl rfl rfl ?_
                refine wl_v (ov_move rfl) rfl rfl rfl ?_
                refine wl_v (ov_adds (r := bstr (([105]) ++ ((letsC m es j).reverse))) rfl rfl (bstr_append _ _) (by show 1 + ((letsC m es j).reverse).length ≤ 1000000; rw [List.length_reverse, letsC_length]; omega)) rfl rfl rfl ?_
                refine wl_v (ov_assign rfl) rfl rfl rfl ?_
                refine wl_nil ?_
                refine ce_then ?_
                refine cw_seq ?_
                refine cw_region ?_
                refine wl_v (ov_move rfl) rfl rfl rfl ?_
                refine wl_r (or_buildSlice (e := 3) (size := 1) (is := [0]) (vs := [.int .i64 (((u1 : Nat) : Int))]) (cs := cells fI ([((u1 : Nat) : Int)])) rfl rfl rfl (by decide) (fun _ => by kernel_rfl)) rfl rfl (kt1 rfl (fun g69 => ?_))
                refine wl_v (ov_move rfl) rfl rfl rfl ?_
                refine wl_r (or_append (c2 := c6) sI38 tI3 rfl (by decide) rfl rfl (.head) (holds_row (List.Mem.tail _ (List.Mem.tail _ (List.Mem.tail _ (List.Mem.tail _ (List.Mem.tail _ (List.Mem.head _))))))) ((by rw [cells_length fI_len, List.length_reverse, hgl])) (one_cells fI_one _) cells_append (by omega) (by omega)) rfl rfl (kt2p rfl (fun A71 c71 h71 => ?_))
                refine wl_v (ov_assign rfl) rfl rfl rfl ?_
                refine wl_nil ?_
                refine ce_then ?_
                refine cw_seq ?_
                refine cw_region ?_
                refine wl_v (ov_move rfl) rfl rfl rfl ?_
                refine wl_v (ov_move rfl) rfl rfl rfl ?_
                refine wl_r (or_buildSlice (e := 3) (size := 1) (is := [0]) (vs := [.int .i64 (((u1 : Nat) : Int))]) (cs := cells fI ([((u1 : Nat) : Int)])) rfl rfl rfl (by decide) (fun _ => by kernel_rfl)) rfl rfl (kt1 rfl (fun g74 => ?_))
                refine wl_r (or_append (c2 := 1) sI38 tI3 rfl (by decide) rfl rfl (.tail (.tail (.tail .head))) (holds_row (List.Mem.head _)) (by rw [cells_length fI_len]; try simp) (one_cells fI_one _) cells_append (by omega) (by omega)) rfl rfl (kt2p rfl (fun A75 c75 h75 => ?_))
                refine wl_v (ov_assign rfl) rfl rfl rfl ?_
                refine wl_nil ?_
                refine ce_then ?_
                refine cw_seq ?_
                refine cw_region ?_
                refine wl_v (ov_assign rfl) rfl rfl rfl ?_
                refine wl_nil ?_
                refine ce_then ?_
                refine cw_block ?_
                refine cw_loop7 (fun (k : Nat) (A9 : Option Addr) (c9 : Nat) (R2 : Option Addr) (n2 : Nat) (c2 : Nat) (zs : List Ed) => [(1, elp (some ⟨g1, 0, none⟩) (0)), (5, .string (bstr (([105]) ++ ((letsC m es j).reverse)))), (6, .slice A71 (1 + j) (c71)), (7, elp (some ⟨g7, 0, none⟩) (0)), (8, .slice A75 (j + 1) (c75)), (11, .int .i64 (((u1 : Nat) : Int))), (14, .int .i64 (((k : Nat) : Int)))]) (fun (k : Nat) (A9 : Option Addr) (c9 : Nat) (R2 : Option Addr) (n2 : Nat) (c2 : Nat) (zs : List Ed) => [row 3 1 A75 (j + 1) (c75) (cells fI ((goneC m es j) ++ ([((u1 : Nat) : Int)]))), row 3 1 (some ⟨g74, 0, none⟩) (1) (1) (cells fI ([((u1 : Nat) : Int)])), row 3 1 A71 (1 + j) (c71) (cells fI (([((u1 : Nat) : Int)]) ++ ((goneC m es j).reverse))), row 3 1 (some ⟨g_24, 0, none⟩) (m) (m) (cells fI (degs m (nowE es (goneC m es j)))), row 65 2 R2 (n2) (c2) (cells fE zs), blk g7 [.int .i64 (((m : Nat) : Int)), .slice A9 ((dropTo (nowE es (goneC m es j)) ((u1 : Nat) : Int) k).length) (c9)] 25, row 3 1 A6 (j) (c6) (cells fI ((goneC m es j).reverse)), blk g1 [.int .i64 (((m : Nat) : Int)), .slice A (es.length) (c)] 25]) (fun (k : Nat) (A9 : Option Addr) (c9 : Nat) (R2 : Option Addr) (n2 : Nat) (c2 : Nat) (zs : List Ed) => k ≤ m ∧ (dropTo (nowE es (goneC m es j)) ((u1 : Nat) : Int) k).length ≤ c9 ∧ ((A9 = R2 ∧ cells fE (dropTo (nowE es (goneC m es j)) ((u1 : Nat) : Int) k) = cells fE zs) ∨ AtB w w.heap.size A9 (cells fE (dropTo (nowE es (goneC m es j)) ((u1 : Nat) : Int) k)))) (fun (k : Nat) (A9 : Option Addr) (c9 : Nat) (R2 : Option Addr) (n2 : Nat) (c2 : Nat) (zs : List Ed) => m - k) 0 A7 c7 R nR cR ys ⟨by omega, hq5, hq6⟩ (.cons rfl (.cons rfl (.cons rfl (.cons rfl (.cons rfl (.cons rfl (.cons (congrArg (fun z => some (Value.int .i64 z)) (show 0 = ((0 : Nat) : Int) by first | omega | rfl | (simp; done))) (.nil)))))))) (.cons (.head) (.cons (.head) (.cons (.head) (.cons (.head) (.consE (show row 65 2 R (nR) (cR) (cells fE ys) = row 65 2 R (nR) (cR) (cells fE ys) by rfl) (.head) (.consE (show blk g7 [.int .i64 (((m : Nat) : Int)), .slice A7 ((nowE es (goneC m es j)).length) (c7)] 25 = blk g7 [.int .i64 (((m : Nat) : Int)), .slice A7 ((dropTo (nowE es (goneC m es j)) ((u1 : Nat) : Int) 0).length) (c7)] 25 by rfl) (.head) (.cons (.head) (.cons (.head) (.nil))))))))) ?_
                intro R2 k A9 c9 R2 n2 c2 zs hk2 hR2
                obtain ⟨hw1, hw2, hw3⟩ := hk2
                have hdl2 := dropTo_len (nowE es (goneC m es j)) ((u1 : Nat) : Int) k
                refine cw_seq ?_
                refine cw_seq ?_
                refine cw_region ?_
                refine wl_v (ov_move rfl) rfl rfl rfl ?_
                refine wl_v (ov_fieldAddr fI25_0 some_lit rfl) rfl rfl rfl ?_
                refine wl_v (ov_load tI3 (holds_blk (List.Mem.tail _ (List.Mem.tail _ (List.Mem.tail _ (List.Mem.tail _ (List.Mem.tail _ (List.Mem.tail _ (List.Mem.tail _ (List.Mem.head _))))))))) rfl rfl) rfl rfl rfl ?_
                refine wl_if (ov_lss rfl rfl) rfl rfl rfl (fun c79 => ?_) (fun c79 => ?_)
                ·
                  refine wl_nil ?_
                  refine ce_then ?_
                  refine cw_true rfl ?_
                  refine cw_skip ?_
                  refine ce_then ?_
                  refine cw_seq ?_
                  refine cw_block ?_
                  refine cw_region ?_
                  refine wl_v (ov_loadAgg (vs := [.int .i64 (((m : Nat) : Int)), .slice A9 ((dropTo (nowE es (goneC m es j)) ((u1 : Nat) : Int) k).length) (c9)]) tI25 (holds_blk (List.Mem.tail _ (List.Mem.tail _ (List.Mem.tail _ (List.Mem.tail _ (List.Mem.tail _ (List.Mem.head _))))))) rfl some_lit rfl rfl) rfl rfl rfl ?_
                  refine wl_v (ov_move rfl) rfl rfl rfl ?_
                  refine wl_v (ov_move rfl) rfl rfl rfl ?_
                  refine wl_r (or_call (fv := []) (vs := [.agg #[.int .i64 (((m : Nat) : Int)), .slice A9 ((dropTo (nowE es (goneC m es j)) ((u1 : Nat) : Int) k).length) (c9)], .int .i64 (((u1 : Nat) : Int)), .int .i64 (((k : Nat) : Int))]) (cs := []) en88 rfl rfl (call_x2 (fun w hw => dropEdgeX_c w ((m : Nat) : Int) A9 ((dropTo (nowE es (goneC m es j)) ((u1 : Nat) : Int) k).length) c9 (dropTo (nowE es (goneC m es j)) ((u1 : Nat) : Int) k) ((u1 : Nat) : Int) ((k : Nat) : Int) ((holds_or (List.Mem.tail _ (List.Mem.tail _ (List.Mem.tail _ (List.Mem.tail _ (List.Mem.head _))))) hw3) w hw) rfl hw2 (by omega)))) rfl rfl (kt2p rfl (fun A2_85 c2_85 h_85 => ?_))
                  refine wl_r0 (or_store_blk (vs := [.int .i64 (((m : Nat) : Int)), .slice A2_85 ((delE (dropTo (nowE es (goneC m es j)) ((u1 : Nat) : Int) k) ((u1 : Nat) : Int) ((k : Nat) : Int)).length) (c2_85)]) (cs' := [.int .i64 (((m : Nat) : Int)), .slice A2_85 ((delE (dropTo (nowE es (goneC m es j)) ((u1 : Nat) : Int) k) ((u1 : Nat) : Int) ((k : Nat) : Int)).length) (c2_85)]) (.tail (.tail (.tail (.tail (.tail (.tail .head)))))) tI25 rfl rfl rfl rfl (Nat.le_of_ble_eq_true rfl) rfl) rfl rfl (kn0 ?_)
                  refine wl_nil ?_
                  refine ce_block ?_
                  refine ce_then ?_
                  refine cw_region ?_
                  refine wl_v (ov_move rfl) rfl rfl rfl ?_
                  refine wl_v (ov_add (r := ((k + 1 : Nat) : Int)) rfl rfl rfl (by omega)) rfl rfl rfl ?_
                  refine wl_v (ov_assign rfl) rfl rfl rfl ?_
                  refine wl_nil ?_
                  exact fun ac_ w_ hs_ => hR2 (k + 1) A2_85 c2_85 A2_85 ((delE (dropTo (nowE es (goneC m es j)) ((u1 : Nat) : Int) k) ((u1 : Nat) : Int) ((k : Nat) : Int)).length) c2_85 (delE (dropTo (nowE es (goneC m es j)) ((u1 : Nat) : Int) k) ((u1 : Nat) : Int) ((k : Nat) : Int)) ⟨by omega, h_85, .inl ⟨rfl, rfl⟩⟩ (by omega) ac_ w_ (hs_.weaken (.cons rfl (.cons rfl (.cons rfl (.cons rfl (.cons rfl (.cons rfl (.cons rfl (.nil)))))))) (.cons (.tail (.tail .head)) (.cons (.tail (.tail .head)) (.cons (.tail (.tail .head)) (.cons (.tail (.tail .head)) (.cons (.tail .head) (.consE (show blk g7 [.int .i64 (((m : Nat) : Int)), .slice A2_85 ((delE (dropTo (nowE es (goneC m es j)) ((u1 : Nat) : Int) k) ((u1 : Nat) : Int) ((k : Nat) : Int)).length) (c2_85)] 25 = blk g7 [.int .i64 (((m : Nat) : Int)), .slice A2_85 ((dropTo (nowE es (goneC m es j)) ((u1 : Nat) : Int) (k + 1)).length) (c2_85)] 25 by rfl) (.head) (.cons (.tail .head) (.cons (.tail .head) (.nil))))))))))
                ·
                  have hnow : dropTo (nowE es (goneC m es j)) ((u1 : Nat) : Int) k = nowE es (goneC m es (j + 1)) := by rw [show k = m from by omega, dropTo_now hg _ (by omega), goneC_succ, hpk]
                  refine wl_nil ?_
                  refine ce_then ?_
                  refine cw_false rfl ?_
                  refine cw_exit ?_
                  refine ce_then_exit ?_
                  refine ce_then_exit ?_
                  refine ce_hit ?_
                  refine ce_block ?_
                  exact fun ac_ w_ hs_ => hR0 (j + 1) A71 c71 A75 c75 A9 c9 R2 n2 c2 zs ⟨by omega, hq2.succ (by rw [hpk]; omega), by omega, by omega, by rw [← hnow]; exact hw2, by rw [← hnow]; exact hw3⟩ (by omega) ac_ w_ (hs_.weaken (.cons rfl (.cons rfl (.cons (congrArg (fun z => some (Value.string z)) (show bstr (([105]) ++ ((letsC m es j).reverse)) = bstr ((letsC m es (j + 1)).reverse) from (by rw [letsC_succ, List.reverse_append, hlet] <;> rfl))) (.cons (congrArg (fun z => some (Value.slice A71 z c71)) (show (1 + j) = (j + 1) from (by omega))) (.cons rfl (.nil)))))) (.consE (show row 3 1 A75 (j + 1) (c75) (cells fI ((goneC m es j) ++ ([((u1 : Nat) : Int)]))) = row 3 1 A75 ((j + 1)) (c75) (cells fI (goneC m es (j + 1))) by rw [goneC_succ, hpk]) (.head) (.cons (.tail (.tail (.tail .head))) (.consE (show blk g7 [.int .i64 (((m : Nat) : Int)), .slice A9 ((dropTo (nowE es (goneC m es j)) ((u1 : Nat) : Int) k).length) (c9)] 25 = blk g7 [.int .i64 (((m : Nat) : Int)), .slice A9 ((nowE es (goneC m es (j + 1))).length) (c9)] 25 by rw [← hnow]) (.tail (.tail (.tail .head))) (.consE (show row 3 1 A71 (1 + j) (c71) (cells fI (([((u1 : Nat) : Int)]) ++ ((goneC m es j).reverse))) = row 3 1 A71 ((j + 1)) (c71) (cells fI ((goneC m es (j + 1)).reverse)) by rw [goneC_succ, hpk, List.reverse_append, show 1 + j = j + 1 from by omega] <;> rfl) (.tail .head) (.cons (.tail (.tail (.tail .head))) (.nil)))))))
          ·
            refine wl_go rfl rfl ?_
            refine wl_v (ov_pick_f rfl rfl) rfl rfl rfl ?_
            refine wl_v (ov_pick_t rfl rfl) rfl rfl rfl ?_
            refine wl_nil ?_
            refine ce_then ?_
            refine cw_false rfl ?_
            refine cw_skip ?_
            refine ce_block ?_
            refine ce_then ?_
            refine cw_region ?_
            refine wl_v (ov_move rfl) rfl rfl rfl ?_
            refine wl_v (ov_sub (r := ((u1 : Nat) : Int) - 1) rfl rfl rfl (by omega)) rfl rfl rfl ?_
            refine wl_v (ov_assign rfl) rfl rfl rfl ?_
            refine wl_nil ?_
            exact fun ac_ w_ hs_ => hR1 u1 ⟨by omega, fun i h1 h2 => (Nat.eq_or_lt_of_le h1).elim (fun e h9 => by subst e; exact ((degs_ok hg (by omega) h9.1).1 h9.2).elim c46 c54) (fun h3 => hu2 i (by omega) h2)⟩ (by omega) ac_ w_ (hs_.weaken (.cons rfl (.cons rfl (.cons rfl (.cons rfl (.cons rfl (.cons rfl (.cons rfl (.cons rfl (.cons rfl (.nil)))))))))) (.cons (.head) (.cons (.head) (.cons (.head) (.cons (.head) (.cons (.head) (.cons (.head) (.nil))))))))
    ·
      have hpk : vC m es j = -1 := by unfold vC; rw [show ((m : Nat) : Int) - 1 - ((j : Nat) : Int) = (((m - j - 1 : Nat) : Nat) : Int) from by omega]; exact spec_none (fun i h => hu2 i (by omega) h)
      refine wl_nil ?_
      refine ce_then ?_
      refine cw_false rfl ?_
      refine cw_exit ?_
      refine ce_then_exit ?_
      refine ce_then_exit ?_
      refine ce_hit ?_
      refine ce_then ?_
      refine cw_seq ?_
      refine cw_seq ?_
      refine cw_region ?_
      refine wl_v (ov_move rfl) rfl rfl rfl ?_
      refine wl_if (ov_lss rfl rfl) rfl rfl rfl (fun c59 => ?_) (fun c59 => ?_)
      ·
        refine wl_nil ?_
        refine ce_then ?_
        refine cw_true rfl ?_
        refine cw_seq ?_
        have hv : codeM m es = (bstr [], [], false) := codeM_fail (j := j) (by omega) (by rw [hpk]; omega)
        refine ct_none fI 3 1 ?_
        refine cw_region ?_
        refine wl_v (ov_assign rfl) rfl rfl rfl ?_
        refine wl_v (ov_assign rfl) rfl rfl rfl ?_
        refine wl_v (ov_assign rfl) rfl rfl rfl ?_
        refine wl_nil ?_
        refine ce_then ?_
        refine cw_ret ?_
        refine ce_then_ret ?_
        refine ce_block_ret ?_
        refine ce_then_ret ?_
        refine ce_block_ret ?_
        refine ce_then_ret ?_
        refine ce_results (v := .tuple #[.string (bstr []), .slice none (0) (0), .bool false]) (res3 rfl (rv_t rfl) (rv_t rfl) (rv_t rfl)) (fun w' hw => ?_)
        exact ⟨none, 0, 0, (by rw [hv]; exact Nat.le_refl _), (by rw [hv] <;> rfl), ((.consE (show row 3 1 none (0) (0) (cells fI ([])) = row 3 1 none ((codeM m es).2.1.length) (0) (cells fI ((codeM m es).2.1)) by rw [hv] <;> rfl) (.head) (.nil) : Keep _ _).ss hw).to_new⟩
      ·
        (exfalso; omega)
  ·
    have hjm : j = m := by omega
    have hv := codeM_yes (show OkTo m es m by have h9 := hq2; rw [hjm] at h9; exact h9)
    refine wl_nil ?_
    refine ce_then ?_
    refine cw_false rfl ?_
    refine cw_exit ?_
    refine ce_then_exit ?_
    refine ce_then_exit ?_
    refine ce_hit ?_
    refine ce_then ?_
    refine cw_seq ?_
    refine cw_region ?_
    refine wl_v (ov_move rfl) rfl rfl rfl ?_
    refine wl_v (ov_move rfl) rfl rfl rfl ?_
    refine wl_v (ov_assign rfl) rfl rfl rfl ?_
    refine wl_v (ov_assign rfl) rfl rfl rfl ?_
    refine wl_v (ov_assign rfl) rfl rfl rfl ?_
    refine wl_nil ?_
    refine ce_then ?_
    refine cw_ret ?_
    refine ce_results (v := .tuple #[.string (bstr ((letsC m es j).reverse)), .slice A6 (j) (c6), .bool true]) (res3 rfl (rv_t rfl) (rv_t rfl) (rv_t rfl)) (fun w' hw => ?_)
    exact ⟨A6, c6, c6, (by rw [hv]; show ((goneC m es m).reverse).length ≤ _; rw [List.length_reverse, goneC_length]; omega), (by rw [hv, hjm]; show _ = Value.tuple #[_, .slice _ ((goneC m es m).reverse).length _, _]; rw [List.length_reverse, goneC_length] <;> rfl), ((.consE (show row 3 1 A6 (j) (c6) (cells fI ((goneC m es j).reverse)) = row 3 1 A6 ((codeM m es).2.1.length) (c6) (cells fI ((codeM m es).2.1)) by rw [hv, hjm]; show _ = row 3 1 _ ((goneC m es m).reverse).length _ _; rw [List.length_reverse, goneC_length] <;> rfl) (.tail (.tail (.tail .head))) (.nil) : Keep _ _).ss hw).to_new⟩
set_option maxRecDepth 100000 in
theorem CodeOfS_c (w : World) (N : Int) (A : Option Addr) (n : Nat) (c : Nat) (es : List (Int × Int)) (hA : At w A (cells fE es)) (eA : es.length = n) (lA : n ≤ c) (hs : es.length ≤ 1048576) (hN : N ≤ 9223372036854775807) : Calls Try.prog 29 #[.agg #[.int .i64 (N), .slice A (n) (c)]] w (Ret fun rv w' => ∃ A2 k2 c2, ((codeC N es).2.1.length ≤ k2) ∧ rv = .tuple #[.string ((codeC N es).1), .slice A2 ((codeC N es).2.1.length) (k2), .bool ((codeC N es).2.2)] ∧ New w w' [row 3 1 A2 ((codeC N es).2.1.length) (c2) (cells fI ((codeC N es).2.1))]) := by
  have oA := hA.atB
  subst eA
  refine fn_enter (args := [.agg #[.int .i64 (N), .slice A (es.length) (c)]]) Try.func29 rfl Try.ntmps29 rfl (SS.start w) ?_
  refine cw_seq ?_
  refine cw_region ?_
  refine wl_r (or_box rfl rfl) rfl rfl (kt1 rfl (fun g1 => ?_))
  refine wl_v (ov_assign rfl) rfl rfl rfl ?_
  refine wl_v (ov_assign rfl) rfl rfl rfl ?_
  refine wl_v (ov_assign rfl) rfl rfl rfl ?_
  refine wl_nil ?_
  refine ce_then ?_
  refine cw_seq ?_
  refine cw_seq ?_
  refine cw_region ?_
  refine wl_v (ov_loadAgg (vs := [.int .i64 (N), .slice A (es.length) (c)]) tI25 (holds_blk (List.Mem.head _)) rfl some_lit rfl rfl) rfl rfl rfl ?_
  refine wl_r (or_call (fv := []) (vs := [.agg #[.int .i64 (N), .slice A (es.length) (c)]]) (cs := []) en40 rfl rfl (call_v (fun w hw => validGraphS_c w N A es.length c es ((holds_old oA) w hw) rfl lA (by first | assumption | omega | (simp; omega))))) rfl rfl (kt_if rfl (fun c6 => ?_) (fun c6 => ?_))
  ·
    refine wl_v (ov_not rfl) rfl rfl rfl ?_
    refine wl_v (ov_move rfl) rfl rfl rfl ?_
    refine wl_go rfl rfl ?_
    refine wl_v (ov_fieldAddr fI25_0 some_lit rfl) rfl rfl rfl ?_
    refine wl_go rfl rfl ?_
    refine wl_v (ov_load tI3 (holds_blk (List.Mem.head _)) rfl rfl) rfl rfl rfl ?_
    refine wl_go rfl rfl ?_
    refine wl_if (ov_eql rfl rfl) rfl rfl rfl (fun c11 => ?_) (fun c11 => ?_)
    ·
      refine wl_v (ov_pick_f rfl rfl) rfl rfl rfl ?_
      refine wl_nil ?_
      refine ce_then ?_
      refine cw_true rfl ?_
      refine cw_seq ?_
      have hv : codeC N es = (bstr [], [], false) := codeC_no (fun h => h.2 c11)
      refine ct_none fI 3 1 ?_
      refine cw_region ?_
      refine wl_v (ov_assign rfl) rfl rfl rfl ?_
      refine wl_v (ov_assign rfl) rfl rfl rfl ?_
      refine wl_v (ov_assign rfl) rfl rfl rfl ?_
      refine wl_nil ?_
      refine ce_then ?_
      refine cw_ret ?_
      refine ce_then_ret ?_
      refine ce_results (v := .tuple #[.string (bstr []), .slice none (0) (0), .bool false]) (res3 rfl (rv_t rfl) (rv_t rfl) (rv_t rfl)) (fun w' hw => ?_)
      exact ⟨none, 0, 0, (by rw [hv]; exact Nat.le_refl _), (by rw [hv] <;> rfl), ((.consE (show row 3 1 none (0) (0) (cells fI ([])) = row 3 1 none ((codeC N es).2.1.length) (0) (cells fI ((codeC N es).2.1)) by rw [hv] <;> rfl) (.head) (.nil) : Keep _ _).ss hw).to_new⟩
    ·
      refine wl_v (ov_pick_f rfl rfl) rfl rfl rfl ?_
      refine wl_nil ?_
      refine ce_then ?_
      refine cw_false rfl ?_
      refine cw_skip ?_
      refine ce_then ?_
      refine cw_seq ?_
      obtain ⟨m, rfl⟩ := Int.eq_ofNat_of_zero_le (show 0 ≤ N from c6.2.1)
      have hg : Gr m es := by have h9 := c6.gr; rwa [Int.toNat_natCast] at h9
      have hm : m ≤ 7 := by have h9 := c6.2.2; omega
      have hv := codeC_M ⟨c6, c11⟩
      refine cw_region ?_
      refine wl_v (ov_loadAgg (vs := [.int .i64 (((m : Nat) : Int)), .slice A (es.length) (c)]) tI25 (holds_blk (List.Mem.head _)) rfl some_lit rfl rfl) rfl rfl rfl ?_
      refine wl_r (or_call (fv := []) (vs := [.agg #[.int .i64 (((m : Nat) : Int)), .slice A (es.length) (c)]]) (cs := []) en67 rfl rfl (call_x3 (fun w hw => codeOfS_c w m A es.length c es ((holds_old oA) w hw) rfl lA (by first | assumption | omega | (simp; omega)) (by first | assumption | omega | (simp; omega))))) rfl rfl (kt3p rfl (fun A2_14 k2_14 c2_14 h_14 => ?_))
      refine wl_v (ov_extract rfl rfl) rfl rfl rfl ?_
      refine wl_v (ov_extract rfl rfl) rfl rfl rfl ?_
      refine wl_v (ov_extract rfl rfl) rfl rfl rfl ?_
      refine wl_v (ov_assign rfl) rfl rfl rfl ?_
      refine wl_v (ov_assign rfl) rfl rfl rfl ?_
      refine wl_v (ov_assign rfl) rfl rfl rfl ?_
      refine wl_nil ?_
      refine ce_then ?_
      refine cw_ret ?_
      refine ce_results (v := .tuple #[.string ((codeM m es).1), .slice A2_14 ((codeM m es).2.1.length) (k2_14), .bool ((codeM m es).2.2)]) (res3 rfl (rv_t rfl) (rv_t rfl) (rv_t rfl)) (fun w' hw => ?_)
      exact ⟨A2_14, k2_14, c2_14, (by rw [hv]; exact h_14), (by rw [hv]), ((.consE (show row 3 1 A2_14 ((codeM m es).2.1.length) (c2_14) (cells fI ((codeM m es).2.1)) = row 3 1 A2_14 ((codeC ((m : Nat) : Int) es).2.1.length) (c2_14) (cells fI ((codeC ((m : Nat) : Int) es).2.1)) by rw [hv]) (.head) (.nil) : Keep _ _).ss hw).to_new⟩
  ·
    refine wl_v (ov_not rfl) rfl rfl rfl ?_
    refine wl_v (ov_move rfl) rfl rfl rfl ?_
    refine wl_not rfl rfl rfl rfl rfl rfl ?_
    refine wl_not rfl rfl rfl rfl rfl rfl ?_
    refine wl_not rfl rfl rfl rfl rfl rfl ?_
    refine wl_v (ov_pick_t rfl rfl) rfl rfl rfl ?_
    refine wl_nil ?_
    refine ce_then ?_
    refine cw_true rfl ?_
    refine cw_seq ?_
    have hv : codeC N es = (bstr [], [], false) := codeC_no (fun h => c6 h.1)
    refine ct_none fI 3 1 ?_
    refine cw_region ?_
    refine wl_v (ov_assign rfl) rfl rfl rfl ?_
    refine wl_v (ov_assign rfl) rfl rfl rfl ?_
    refine wl_v (ov_assign rfl) rfl rfl rfl ?_
    refine wl_nil ?_
    refine ce_then ?_
    refine cw_ret ?_
    refine ce_then_ret ?_
    refine ce_results (v := .tuple #[.string (bstr []), .slice none (0) (0), .bool false]) (res3 rfl (rv_t rfl) (rv_t rfl) (rv_t rfl)) (fun w' hw => ?_)
    exact ⟨none, 0, 0, (by rw [hv]; exact Nat.le_refl _), (by rw [hv] <;> rfl), ((.consE (show row 3 1 none (0) (0) (cells fI ([])) = row 3 1 none ((codeC N es).2.1.length) (0) (cells fI ((codeC N es).2.1)) by rw [hv] <;> rfl) (.head) (.nil) : Keep _ _).ss hw).to_new⟩
end Go.Proofs.Ytkkllkkjdbpjpaa.W56
