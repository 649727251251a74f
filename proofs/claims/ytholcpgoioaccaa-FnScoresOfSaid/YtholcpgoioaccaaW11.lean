/- Walks of functions of the given program: each returns what its Lean function says and leaves the memory that was there as it was. Conditions: those of each theorem. -/
import Derived.Test.YtholcpgoioaccaaSm
import Derived.Test.YtholcpgoioaccaaProg
import Derived.Test.YtholcpgoioaccaaPl
import Derived.Test.YtholcpgoioaccaaPo
import Derived.Test.YtholcpgoioaccaaPd
import Derived.Test.YtholcpgoioaccaaPe
import Derived.Test.YtholcpgoioaccaaPh
import Derived.Test.YtholcpgoioaccaaPm
import Derived.Test.YtholcpgoioaccaaPc
import Derived.Test.YtholcpgoioaccaaPs
import Derived.Test.YtholcpgoioaccaaPt
import Derived.Test.YtholcpgoioaccaaPu
import Derived.Test.YtholcpgoioaccaaPv
import Derived.Test.YtholcpgoioaccaaSo
import Derived.Test.YtholcpgoioaccaaSh
import Derived.Test.YtholcpgoioaccaaT
import Derived.KernelRfl
namespace Go.Proofs.Ytholcpgoioaccaa.W11
open Go.Sx Go.RowKit Go.Proofs.Ytholcpgoioaccaa.T
open Go.Plain
set_option linter.unusedVariables false
set_option maxRecDepth 100000 in
theorem newReader_c (w : World) (Ar : Option Addr) (nr : Nat) (cr : Nat) (bs : List (Nat)) (hAr : At w Ar (cells fY bs)) (eAr : bs.length = nr) (lAr : nr ≤ cr) : Calls Try.prog 39 #[.slice Ar (nr) (cr)] w (Ret fun rv w' => ∃ g n2, (n2 ≤ nr ∧ n2 ≤ 2000) ∧ rv = elp (some ⟨g, 0, none⟩) (0) ∧ New w w' [blk g [.slice Ar (n2) (cr), .int .i64 (0)] 59]) := by
  have oAr := hAr.atB
  subst eAr
  refine fn_enter (args := [.slice Ar (bs.length) (cr)]) Try.func39 rfl Try.ntmps39 rfl (SS.start w) ?_
  refine cw_seq ?_
  refine cw_region ?_
  refine wl_v (ov_assign rfl) rfl rfl rfl ?_
  refine wl_nil ?_
  refine ce_then ?_
  refine cw_seq ?_
  refine cw_seq ?_
  refine cw_region ?_
  refine wl_v (ov_move rfl) rfl rfl rfl ?_
  refine wl_v (ov_len (sliceI_spec sI22) rfl) rfl rfl rfl ?_
  refine wl_if (ov_gtr rfl rfl) rfl rfl rfl (fun c5 => ?_) (fun c5 => ?_)
  ·
    refine wl_nil ?_
    refine ce_then ?_
    refine cw_true rfl ?_
    refine cw_region ?_
    refine wl_v (ov_move rfl) rfl rfl rfl ?_
    refine wl_v (ov_slice_h (h := 2000) sI22 tI5 rfl rfl (by omega)) rfl rfl rfl ?_
    refine wl_v (ov_assign rfl) rfl rfl rfl ?_
    refine wl_nil ?_
    refine ce_then ?_
    refine cw_seq ?_
    refine cw_region ?_
    refine wl_v (ov_move rfl) rfl rfl rfl ?_
    refine wl_v (ov_build (is := [0]) (vs := [.slice Ar (2000) (cr)]) (v := .agg #[.slice Ar (2000) (cr), .int .i64 (0)]) rfl rfl (fun _ => by kernel_rfl)) rfl rfl rfl ?_
    refine wl_r (or_box rfl rfl) rfl rfl (kt1 rfl (fun g10 => ?_))
    refine wl_v (ov_assign rfl) rfl rfl rfl ?_
    refine wl_nil ?_
    refine ce_then ?_
    refine cw_ret ?_
    refine ce_results (v := elp (some ⟨g10, 0, none⟩) (0)) (res1 rfl (rv_t rfl)) (fun w' hw => ?_)
    exact ⟨g10, 2000, ⟨by omega, by omega⟩, rfl, ((.cons (.head) (.nil) : Keep _ _).ss hw).to_new⟩
  ·
    refine wl_nil ?_
    refine ce_then ?_
    refine cw_false rfl ?_
    refine cw_skip ?_
    refine ce_then ?_
    refine cw_seq ?_
    refine cw_region ?_
    refine wl_v (ov_move rfl) rfl rfl rfl ?_
    refine wl_v (ov_build (is := [0]) (vs := [.slice Ar (bs.length) (cr)]) (v := .agg #[.slice Ar (bs.length) (cr), .int .i64 (0)]) rfl rfl (fun _ => by kernel_rfl)) rfl rfl rfl ?_
    refine wl_r (or_box rfl rfl) rfl rfl (kt1 rfl (fun g10 => ?_))
    refine wl_v (ov_assign rfl) rfl rfl rfl ?_
    refine wl_nil ?_
    refine ce_then ?_
    refine cw_ret ?_
    refine ce_results (v := elp (some ⟨g10, 0, none⟩) (0)) (res1 rfl (rv_t rfl)) (fun w' hw => ?_)
    exact ⟨g10, bs.length, ⟨by omega, by omega⟩, rfl, ((.cons (.head) (.nil) : Keep _ _).ss hw).to_new⟩
set_option maxRecDepth 100000 in
theorem pick_c (w w0 : World) (Bd : Nat) (F : List Ent) (m : Int) (g : Nat) (Ar : Option Addr) (nr : Nat) (cr : Nat) (bs : List Nat) (p : Nat) (hAr : Holds (SS w0 Bd F) Ar (cells fY bs)) (eAr : bs.length = nr) (lAr : nr ≤ cr) (hy : nr ≤ 2000 ∧ (∀ x ∈ bs, x < 256) ∧ p ≤ 100000) (hm : m ≤ 1000000) (hss : SS w0 Bd ((blk g [.slice Ar (nr) (cr), .int .i64 (((p : Nat) : Int))] 59) :: F) w) : Calls Try.prog 73 #[elp (some ⟨g, 0, none⟩) (0), .int .i64 (m)] w (Ret fun rv w' => ∃ v, (0 ≤ v ∧ (v < m ∨ (v = 0 ∧ m < 1))) ∧ rv = .int .i64 (v) ∧ SS w0 Bd ((blk g [.slice Ar (nr) (cr), .int .i64 (((p + 1 : Nat) : Int))] 59) :: F) w') := by
  refine fn_enter (args := [elp (some ⟨g, 0, none⟩) (0), .int .i64 (m)]) Try.func73 rfl Try.ntmps73 rfl hss ?_
  refine cw_seq ?_
  refine cw_region ?_
  refine wl_v (ov_assign rfl) rfl rfl rfl ?_
  refine wl_nil ?_
  refine ce_then ?_
  refine cw_seq ?_
  refine cw_region ?_
  refine wl_v (ov_move rfl) rfl rfl rfl ?_
  refine wl_v (ov_move rfl) rfl rfl rfl ?_
  refine wl_v (ov_nilCheckP rfl) rfl rfl rfl ?_
  refine wl_v (ov_fieldAddr fI59_1 some_lit rfl) rfl rfl rfl ?_
  refine wl_v (ov_load tI3 (holds_blk (List.Mem.head _)) rfl rfl) rfl rfl rfl ?_
  refine wl_v (ov_add (r := ((p + 1 : Nat) : Int)) rfl rfl rfl (by omega)) rfl rfl rfl ?_
  refine wl_v (ov_nilCheckP rfl) rfl rfl rfl ?_
  refine wl_v (ov_fieldAddr fI59_1 some_lit rfl) rfl rfl rfl ?_
  refine wl_r0 (or_store_blk (vs := [.int .i64 (((p + 1 : Nat) : Int))]) (cs' := [.slice Ar (nr) (cr), .int .i64 (((p + 1 : Nat) : Int))]) (.head) tI3 rfl rfl rfl rfl (Nat.le_of_ble_eq_true rfl) rfl) rfl rfl (kn0 ?_)
  refine wl_nil ?_
  refine ce_then ?_
  refine cw_seq ?_
  refine cw_seq ?_
  refine cw_region ?_
  refine wl_v (ov_move rfl) rfl rfl rfl ?_
  refine wl_if (ov_lss rfl rfl) rfl rfl rfl (fun c16 => ?_) (fun c16 => ?_)
  ·
    refine wl_v (ov_move rfl) rfl rfl rfl ?_
    refine wl_not rfl rfl rfl rfl rfl rfl ?_
    refine wl_not rfl rfl rfl rfl rfl rfl ?_
    refine wl_not rfl rfl rfl rfl rfl rfl ?_
    refine wl_not rfl rfl rfl rfl rfl rfl ?_
    refine wl_not rfl rfl rfl rfl rfl rfl ?_
    refine wl_not rfl rfl rfl rfl rfl rfl ?_
    refine wl_v (ov_pick_t rfl rfl) rfl rfl rfl ?_
    refine wl_nil ?_
    refine ce_then ?_
    refine cw_true rfl ?_
    refine cw_seq ?_
    refine cw_region ?_
    refine wl_v (ov_assign rfl) rfl rfl rfl ?_
    refine wl_nil ?_
    refine ce_then ?_
    refine cw_ret ?_
    refine ce_then_ret ?_
    refine ce_results (v := .int .i64 (0)) (res1 rfl (rv_t rfl)) (fun w' hw => ?_)
    exact ⟨0, ⟨by omega, by omega⟩, rfl, ((.cons (.head) (.refl) : Keep _ _).ss hw)⟩
  ·
    refine wl_v (ov_move rfl) rfl rfl rfl ?_
    refine wl_go rfl rfl ?_
    refine wl_v (ov_move rfl) rfl rfl rfl ?_
    refine wl_go rfl rfl ?_
    refine wl_v (ov_nilCheckP rfl) rfl rfl rfl ?_
    refine wl_go rfl rfl ?_
    refine wl_v (ov_fieldAddr fI59_0 some_lit rfl) rfl rfl rfl ?_
    refine wl_go rfl rfl ?_
    refine wl_v (ov_load tI22 (holds_blk (List.Mem.head _)) rfl rfl) rfl rfl rfl ?_
    refine wl_go rfl rfl ?_
    refine wl_v (ov_len (sliceI_spec sI22) rfl) rfl rfl rfl ?_
    refine wl_go rfl rfl ?_
    refine wl_if (ov_eql rfl rfl) rfl rfl rfl (fun c23 => ?_) (fun c23 => ?_)
    ·
      refine wl_v (ov_pick_f rfl rfl) rfl rfl rfl ?_
      refine wl_nil ?_
      refine ce_then ?_
      refine cw_true rfl ?_
      refine cw_seq ?_
      refine cw_region ?_
      refine wl_v (ov_assign rfl) rfl rfl rfl ?_
      refine wl_nil ?_
      refine ce_then ?_
      refine cw_ret ?_
      refine ce_then_ret ?_
      refine ce_results (v := .int .i64 (0)) (res1 rfl (rv_t rfl)) (fun w' hw => ?_)
      exact ⟨0, ⟨by omega, by omega⟩, rfl, ((.cons (.head) (.refl) : Keep _ _).ss hw)⟩
    ·
      refine wl_v (ov_pick_f rfl rfl) rfl rfl rfl ?_
      refine wl_nil ?_
      refine ce_then ?_
      refine cw_false rfl ?_
      refine cw_skip ?_
      refine ce_then ?_
      refine cw_seq ?_
      refine cw_region ?_
      refine wl_v (ov_move rfl) rfl rfl rfl ?_
      refine wl_v (ov_nilCheckP rfl) rfl rfl rfl ?_
      refine wl_v (ov_fieldAddr fI59_1 some_lit rfl) rfl rfl rfl ?_
      refine wl_v (ov_load tI3 (holds_blk (List.Mem.head _)) rfl rfl) rfl rfl rfl ?_
      refine wl_v (ov_sub (r := ((p : Nat) : Int)) rfl rfl (by omega) (by omega)) rfl rfl rfl ?_
      refine wl_v (ov_assign rfl) rfl rfl rfl ?_
      refine wl_nil ?_
      refine ce_then ?_
      refine cw_seq ?_
      refine cw_seq ?_
      refine cw_region ?_
      refine wl_v (ov_move rfl) rfl rfl rfl ?_
      refine wl_v (ov_move rfl) rfl rfl rfl ?_
      refine wl_v (ov_nilCheckP rfl) rfl rfl rfl ?_
      refine wl_v (ov_fieldAddr fI59_0 some_lit rfl) rfl rfl rfl ?_
      refine wl_v (ov_load tI22 (holds_blk (List.Mem.head _)) rfl rfl) rfl rfl rfl ?_
      refine wl_v (ov_len (sliceI_spec sI22) rfl) rfl rfl rfl ?_
      refine wl_if (ov_lss rfl rfl) rfl rfl rfl (fun c36 => ?_) (fun c36 => ?_)
      ·
        refine wl_nil ?_
        refine ce_then ?_
        refine cw_true rfl ?_
        refine cw_seq ?_
        refine cw_region ?_
        refine wl_v (ov_move rfl) rfl rfl rfl ?_
        refine wl_v (ov_nilCheckP rfl) rfl rfl rfl ?_
        refine wl_v (ov_fieldAddr fI59_0 some_lit rfl) rfl rfl rfl ?_
        refine wl_v (ov_load tI22 (holds_blk (List.Mem.head _)) rfl rfl) rfl rfl rfl ?_
        refine wl_v (ov_move rfl) rfl rfl rfl ?_
        refine wl_v (ov_index (k := p) (c := cr) sI22 tI5 rfl rfl (some_holds (q := p * 1) (Holds.keepF hAr ((.drop .refl))) (by rw [cells_length fY_len]; have hlt : p < bs.length := (by first | omega | (simp; omega)); omega)) (show p < nr from (by first | omega | (simp; omega)))) rfl rfl rfl ?_
        refine wl_v (ov_load tI5 (Holds.keepF hAr ((.drop .refl))) rfl (get_fY (show p < bs.length from (by first | omega | (simp; omega))))) rfl rfl rfl ?_
        have hb := hy.2.1 _ (getD_mem (xs := bs) (k := p) 0 (by omega))
        refine wl_v (ov_convi (by rw [uI5] <;> rfl) uI3 rfl (by omega)) rfl rfl rfl ?_
        refine wl_v (ov_move rfl) rfl rfl rfl ?_
        refine wl_v (ov_rem (r := (((bs.getD p 0) : Nat) : Int) % m) rfl rfl (by omega) (by omega) rfl) rfl rfl rfl ?_
        refine wl_v (ov_assign rfl) rfl rfl rfl ?_
        refine wl_nil ?_
        refine ce_then ?_
        refine cw_ret ?_
        refine ce_then_ret ?_
        refine ce_results (v := .int .i64 ((((bs.getD p 0) : Nat) : Int) % m)) (res1 rfl (rv_t rfl)) (fun w' hw => ?_)
        exact ⟨(((bs.getD p 0) : Nat) : Int) % m, ⟨Int.emod_nonneg _ (by omega), .inl (Int.emod_lt_of_pos _ (by omega))⟩, rfl, ((.cons (.head) (.refl) : Keep _ _).ss hw)⟩
      ·
        refine wl_nil ?_
        refine ce_then ?_
        refine cw_false rfl ?_
        refine cw_skip ?_
        refine ce_then ?_
        refine cw_seq ?_
        refine cw_draw mixO [] (.cons (.head) (.refl)) rfl ?_
        refine wg_takep (i := 0) rfl (ov_move rfl) rfl rfl rfl (by kernel_rfl) (by kernel_rfl) (by kernel_rfl) rfl ?_
        refine wg_take (i := 1) rfl (ov_nilCheckP rfl) rfl rfl rfl (by kernel_rfl) (by kernel_rfl) (by kernel_rfl) (by kernel_rfl) ?_
        refine wg_take (i := 2) rfl (ov_fieldAddr fI59_0 some_lit rfl) rfl rfl rfl (by kernel_rfl) (by kernel_rfl) (by kernel_rfl) (by kernel_rfl) ?_
        refine wg_take (i := 3) rfl (ov_load tI22 (holds_blk (List.Mem.head _)) rfl rfl) rfl rfl rfl (by kernel_rfl) (by kernel_rfl) (by kernel_rfl) (by kernel_rfl) ?_
        refine wg_takep (i := 4) rfl (ov_move rfl) rfl rfl rfl (by kernel_rfl) (by kernel_rfl) (by kernel_rfl) rfl ?_
        refine wg_takep (i := 5) rfl (ov_move rfl) rfl rfl rfl (by kernel_rfl) (by kernel_rfl) (by kernel_rfl) rfl ?_
        refine wg_take (i := 6) rfl (ov_nilCheckP rfl) rfl rfl rfl (by kernel_rfl) (by kernel_rfl) (by kernel_rfl) (by kernel_rfl) ?_
        refine wg_take (i := 7) rfl (ov_fieldAddr fI59_0 some_lit rfl) rfl rfl rfl (by kernel_rfl) (by kernel_rfl) (by kernel_rfl) (by kernel_rfl) ?_
        refine wg_take (i := 8) rfl (ov_load tI22 (holds_blk (List.Mem.head _)) rfl rfl) rfl rfl rfl (by kernel_rfl) (by kernel_rfl) (by kernel_rfl) (by kernel_rfl) ?_
        refine wg_takep (i := 9) rfl (ov_len (sliceI_spec sI22) rfl) rfl rfl rfl (by kernel_rfl) (by kernel_rfl) (by kernel_rfl) rfl ?_
        refine wg_takep (i := 10) rfl (ov_rem (r := ((p % nr : Nat) : Int)) rfl rfl (by omega) (by omega) (Int.natCast_emod _ _).symm) rfl rfl rfl (by kernel_rfl) (by kernel_rfl) (by kernel_rfl) rfl ?_
        refine wg_take (i := 11) rfl (ov_index (k := p % nr) (c := cr) sI22 tI5 rfl rfl (some_holds (q := (p % nr) * 1) (Holds.keepF hAr ((.drop .refl))) (by rw [cells_length fY_len]; have hlt : p % nr < bs.length := (by have := Nat.mod_lt p (show 0 < nr from by omega); omega); omega)) (show p % nr < nr from (by have := Nat.mod_lt p (show 0 < nr from by omega); omega))) rfl rfl rfl (by kernel_rfl) (by kernel_rfl) (by kernel_rfl) (by kernel_rfl) ?_
        refine wg_take (i := 12) rfl (ov_load tI5 (Holds.keepF hAr ((.drop .refl))) rfl (get_fY (show p % nr < bs.length from (by have := Nat.mod_lt p (show 0 < nr from by omega); omega)))) rfl rfl rfl (by kernel_rfl) (by kernel_rfl) (by kernel_rfl) (by kernel_rfl) ?_
        have hb1 := hy.2.1 _ (getD_mem (xs := bs) (k := p % nr) 0 (by have := Nat.mod_lt p (show 0 < nr from by omega); omega))
        refine wg_take (i := 13) rfl (ov_convi (by rw [uI5] <;> rfl) uI3 rfl (by omega)) rfl rfl rfl (by kernel_rfl) (by kernel_rfl) (by kernel_rfl) (by kernel_rfl) ?_
        refine wg_takep (i := 14) rfl (ov_mul (r := (((bs.getD (p % nr) 0) * 131 : Nat) : Int)) rfl rfl (by omega) (by omega)) rfl rfl rfl (by kernel_rfl) (by kernel_rfl) (by kernel_rfl) rfl ?_
        refine wg_takep (i := 15) rfl (ov_move rfl) rfl rfl rfl (by kernel_rfl) (by kernel_rfl) (by kernel_rfl) rfl ?_
        refine wg_take (i := 16) rfl (ov_nilCheckP rfl) rfl rfl rfl (by kernel_rfl) (by kernel_rfl) (by kernel_rfl) (by kernel_rfl) ?_
        refine wg_take (i := 17) rfl (ov_fieldAddr fI59_0 some_lit rfl) rfl rfl rfl (by kernel_rfl) (by kernel_rfl) (by kernel_rfl) (by kernel_rfl) ?_
        refine wg_take (i := 18) rfl (ov_load tI22 (holds_blk (List.Mem.head _)) rfl rfl) rfl rfl rfl (by kernel_rfl) (by kernel_rfl) (by kernel_rfl) (by kernel_rfl) ?_
        refine wg_takep (i := 19) rfl (ov_move rfl) rfl rfl rfl (by kernel_rfl) (by kernel_rfl) (by kernel_rfl) rfl ?_
        refine wg_takep (i := 20) rfl (ov_mul (r := ((p * 7 : Nat) : Int)) rfl rfl (by omega) (by omega)) rfl rfl rfl (by kernel_rfl) (by kernel_rfl) (by kernel_rfl) rfl ?_
        refine wg_takep (i := 21) rfl (ov_add (r := (((p * 7) + 3 : Nat) : Int)) rfl rfl rfl (by omega)) rfl rfl rfl (by kernel_rfl) (by kernel_rfl) (by kernel_rfl) rfl ?_
        refine wg_takep (i := 22) rfl (ov_move rfl) rfl rfl rfl (by kernel_rfl) (by kernel_rfl) (by kernel_rfl) rfl ?_
        refine wg_take (i := 23) rfl (ov_nilCheckP rfl) rfl rfl rfl (by kernel_rfl) (by kernel_rfl) (by kernel_rfl) (by kernel_rfl) ?_
        refine wg_take (i := 24) rfl (ov_fieldAddr fI59_0 some_lit rfl) rfl rfl rfl (by kernel_rfl) (by kernel_rfl) (by kernel_rfl) (by kernel_rfl) ?_
        refine wg_take (i := 25) rfl (ov_load tI22 (holds_blk (List.Mem.head _)) rfl rfl) rfl rfl rfl (by kernel_rfl) (by kernel_rfl) (by kernel_rfl) (by kernel_rfl) ?_
        refine wg_takep (i := 26) rfl (ov_len (sliceI_spec sI22) rfl) rfl rfl rfl (by kernel_rfl) (by kernel_rfl) (by kernel_rfl) rfl ?_
        refine wg_takep (i := 27) rfl (ov_rem (r := (((p * 7 + 3) % nr : Nat) : Int)) rfl rfl (by omega) (by omega) (Int.natCast_emod _ _).symm) rfl rfl rfl (by kernel_rfl) (by kernel_rfl) (by kernel_rfl) rfl ?_
        refine wg_take (i := 28) rfl (ov_index (k := (p * 7 + 3) % nr) (c := cr) sI22 tI5 rfl rfl (some_holds (q := ((p * 7 + 3) % nr) * 1) (Holds.keepF hAr ((.drop .refl))) (by rw [cells_length fY_len]; have hlt : (p * 7 + 3) % nr < bs.length := (by have := Nat.mod_lt (p * 7 + 3) (show 0 < nr from by omega); omega); omega)) (show (p * 7 + 3) % nr < nr from (by have := Nat.mod_lt (p * 7 + 3) (show 0 < nr from by omega); omega))) rfl rfl rfl (by kernel_rfl) (by kernel_rfl) (by kernel_rfl) (by kernel_rfl) ?_
        refine wg_take (i := 29) rfl (ov_load tI5 (Holds.keepF hAr ((.drop .refl))) rfl (get_fY (show (p * 7 + 3) % nr < bs.length from (by have := Nat.mod_lt (p * 7 + 3) (show 0 < nr from by omega); omega)))) rfl rfl rfl (by kernel_rfl) (by kernel_rfl) (by kernel_rfl) (by kernel_rfl) ?_
        have hb2 := hy.2.1 _ (getD_mem (xs := bs) (k := (p * 7 + 3) % nr) 0 (by have := Nat.mod_lt (p * 7 + 3) (show 0 < nr from by omega); omega))
        refine wg_take (i := 30) rfl (ov_convi (by rw [uI5] <;> rfl) uI3 rfl (by omega)) rfl rfl rfl (by kernel_rfl) (by kernel_rfl) (by kernel_rfl) (by kernel_rfl) ?_
        refine wg_takep (i := 31) rfl (ov_mul (r := (((bs.getD ((p * 7 + 3) % nr) 0) * 1117 : Nat) : Int)) rfl rfl (by omega) (by omega)) rfl rfl rfl (by kernel_rfl) (by kernel_rfl) (by kernel_rfl) rfl ?_
        refine wg_takep (i := 32) rfl (ov_add (r := ((((bs.getD (p % nr) 0) * 131) + ((bs.getD ((p * 7 + 3) % nr) 0) * 1117) : Nat) : Int)) rfl rfl rfl (by omega)) rfl rfl rfl (by kernel_rfl) (by kernel_rfl) (by kernel_rfl) rfl ?_
        refine wg_takep (i := 33) rfl (ov_move rfl) rfl rfl rfl (by kernel_rfl) (by kernel_rfl) (by kernel_rfl) rfl ?_
        refine wg_takep (i := 34) rfl (ov_mul (r := ((p * 29 : Nat) : Int)) rfl rfl (by omega) (by omega)) rfl rfl rfl (by kernel_rfl) (by kernel_rfl) (by kernel_rfl) rfl ?_
        refine wg_takep (i := 35) rfl (ov_add (r := (((((bs.getD (p % nr) 0) * 131) + ((bs.getD ((p * 7 + 3) % nr) 0) * 1117)) + (p * 29) : Nat) : Int)) rfl rfl rfl (by omega)) rfl rfl rfl (by kernel_rfl) (by kernel_rfl) (by kernel_rfl) rfl ?_
        refine wg_takep (i := 36) rfl (ov_move rfl) rfl rfl rfl (by kernel_rfl) (by kernel_rfl) (by kernel_rfl) rfl ?_
        refine wg_takep (i := 37) rfl (ov_move rfl) rfl rfl rfl (by kernel_rfl) (by kernel_rfl) (by kernel_rfl) rfl ?_
        refine wg_take (i := 38) rfl (ov_nilCheckP rfl) rfl rfl rfl (by kernel_rfl) (by kernel_rfl) (by kernel_rfl) (by kernel_rfl) ?_
        refine wg_take (i := 39) rfl (ov_fieldAddr fI59_0 some_lit rfl) rfl rfl rfl (by kernel_rfl) (by kernel_rfl) (by kernel_rfl) (by kernel_rfl) ?_
        refine wg_take (i := 40) rfl (ov_load tI22 (holds_blk (List.Mem.head _)) rfl rfl) rfl rfl rfl (by kernel_rfl) (by kernel_rfl) (by kernel_rfl) (by kernel_rfl) ?_
        refine wg_takep (i := 41) rfl (ov_len (sliceI_spec sI22) rfl) rfl rfl rfl (by kernel_rfl) (by kernel_rfl) (by kernel_rfl) rfl ?_
        refine wg_takep (i := 42) rfl (ov_quo (r := ((p / nr : Nat) : Int)) rfl rfl (by omega) (by omega) (Int.natCast_ediv _ _).symm) rfl rfl rfl (by kernel_rfl) (by kernel_rfl) (by kernel_rfl) rfl ?_
        have hq := Nat.div_le_self p nr
        refine wg_takep (i := 43) rfl (ov_mul (r := (((p / nr) * 53 : Nat) : Int)) rfl rfl (by omega) (by omega)) rfl rfl rfl (by kernel_rfl) (by kernel_rfl) (by kernel_rfl) rfl ?_
        refine wg_takep (i := 44) rfl (ov_add (r := ((((((bs.getD (p % nr) 0) * 131) + ((bs.getD ((p * 7 + 3) % nr) 0) * 1117)) + (p * 29)) + ((p / nr) * 53) : Nat) : Int)) rfl rfl rfl (by omega)) rfl rfl rfl (by kernel_rfl) (by kernel_rfl) (by kernel_rfl) rfl ?_
        refine wg_takep (i := 45) rfl (ov_assign rfl) rfl rfl rfl (by kernel_rfl) (by kernel_rfl) (by kernel_rfl) rfl ?_
        refine wg_done (by kernel_rfl) ?_
        refine ce_then ?_
        refine cw_seq ?_
        refine cw_region ?_
        refine wl_v (ov_move rfl) rfl rfl rfl ?_
        refine wl_v (ov_move rfl) rfl rfl rfl ?_
        refine wl_v (ov_quo (r := ((((((bs.getD (p % nr) 0) * 131) + ((bs.getD ((p * 7 + 3) % nr) 0) * 1117)) + (p * 29)) + ((p / nr) * 53) : Nat) : Int) / 64) rfl rfl (by omega) (by omega) rfl) rfl rfl rfl ?_
        refine wl_v (ov_xor rfl rfl) rfl rfl rfl ?_
        have hx := xorI_bd (i := ((((((bs.getD (p % nr) 0) * 131) + ((bs.getD ((p * 7 + 3) % nr) 0) * 1117)) + (p * 29)) + ((p / nr) * 53) : Nat) : Int)) (j := ((((((bs.getD (p % nr) 0) * 131) + ((bs.getD ((p * 7 + 3) % nr) 0) * 1117)) + (p * 29)) + ((p / nr) * 53) : Nat) : Int) / 64) (by omega) (by omega)
        refine wl_v (ov_assign rfl) rfl rfl rfl ?_
        refine wl_nil ?_
        refine ce_then ?_
        refine cw_seq ?_
        refine cw_region ?_
        refine wl_v (ov_move rfl) rfl rfl rfl ?_
        refine wl_v (ov_move rfl) rfl rfl rfl ?_
        refine wl_v (ov_rem (r := (xorI ((((((bs.getD (p % nr) 0) * 131) + ((bs.getD ((p * 7 + 3) % nr) 0) * 1117)) + (p * 29)) + ((p / nr) * 53) : Nat) : Int) (((((((bs.getD (p % nr) 0) * 131) + ((bs.getD ((p * 7 + 3) % nr) 0) * 1117)) + (p * 29)) + ((p / nr) * 53) : Nat) : Int) / 64)) % m) rfl rfl (by omega) (by omega) rfl) rfl rfl rfl ?_
        refine wl_v (ov_assign rfl) rfl rfl rfl ?_
        refine wl_nil ?_
        refine ce_then ?_
        refine cw_ret ?_
        refine ce_results (v := .int .i64 ((xorI ((((((bs.getD (p % nr) 0) * 131) + ((bs.getD ((p * 7 + 3) % nr) 0) * 1117)) + (p * 29)) + ((p / nr) * 53) : Nat) : Int) (((((((bs.getD (p % nr) 0) * 131) + ((bs.getD ((p * 7 + 3) % nr) 0) * 1117)) + (p * 29)) + ((p / nr) * 53) : Nat) : Int) / 64)) % m)) (res1 rfl (rv_t rfl)) (fun w' hw => ?_)
        exact ⟨(xorI ((((((bs.getD (p % nr) 0) * 131) + ((bs.getD ((p * 7 + 3) % nr) 0) * 1117)) + (p * 29)) + ((p / nr) * 53) : Nat) : Int) (((((((bs.getD (p % nr) 0) * 131) + ((bs.getD ((p * 7 + 3) % nr) 0) * 1117)) + (p * 29)) + ((p / nr) * 53) : Nat) : Int) / 64)) % m, ⟨Int.emod_nonneg _ (by omega), .inl (Int.emod_lt_of_pos _ (by omega))⟩, rfl, ((.cons (.head) (.refl) : Keep _ _).ss hw)⟩
set_option maxRecDepth 100000 in
theorem one_c (w w0 : World) (Bd : Nat) (F : List Ent) (A1 : Option Addr) (n1 : Nat) (c1 : Nat) (xs : List (Int)) (g : Nat) (Ar : Option Addr) (nr : Nat) (cr : Nat) (bs : List Nat) (p : Nat) (hA1 : Holds (SS w0 Bd F) A1 (cells fI xs)) (eA1 : xs.length = n1) (lA1 : n1 ≤ c1) (hAr : Holds (SS w0 Bd F) Ar (cells fY bs)) (eAr : bs.length = nr) (lAr : nr ≤ cr) (hy : nr ≤ 2000 ∧ (∀ x ∈ bs, x < 256) ∧ p ≤ 100000) (h0 : 0 < n1 ∧ n1 ≤ 1000) (hss : SS w0 Bd ((blk g [.slice Ar (nr) (cr), .int .i64 (((p : Nat) : Int))] 59) :: F) w) : Calls Try.prog 74 #[elp (some ⟨g, 0, none⟩) (0), .slice A1 (n1) (c1)] w (Ret fun rv w' => ∃ v, (v ∈ xs) ∧ rv = .int .i64 (v) ∧ SS w0 Bd ((blk g [.slice Ar (nr) (cr), .int .i64 (((p + 1 : Nat) : Int))] 59) :: F) w') := by
  subst eA1
  refine fn_enter (args := [elp (some ⟨g, 0, none⟩) (0), .slice A1 (xs.length) (c1)]) Try.func74 rfl Try.ntmps74 rfl hss ?_
  refine cw_seq ?_
  refine cw_region ?_
  refine wl_v (ov_assign rfl) rfl rfl rfl ?_
  refine wl_nil ?_
  refine ce_then ?_
  refine cw_seq ?_
  refine cw_region ?_
  refine wl_v (ov_move rfl) rfl rfl rfl ?_
  refine wl_v (ov_move rfl) rfl rfl rfl ?_
  refine wl_v (ov_move rfl) rfl rfl rfl ?_
  refine wl_v (ov_len (sliceI_spec sI23) rfl) rfl rfl rfl ?_
  refine wl_r (or_call (fv := []) (vs := [elp (some ⟨g, 0, none⟩) (0), .int .i64 (((xs.length : Nat) : Int))]) (cs := []) en73 rfl rfl (call_o (.cons (.head) (.refl)) (fun w hw => pick_c w _ _ _ ((xs.length : Nat) : Int) g Ar nr cr bs p (Holds.keepF hAr (.refl)) (by first | rfl | assumption | (simp; done) | (simp; omega)) lAr ⟨hy.1, hy.2.1, by omega⟩ (by first | assumption | omega | (simp; omega)) hw))) rfl rfl (kt1p rfl (fun v_9 h_9 => ?_))
  refine wl_v (ov_indexg sI23 tI3 rfl rfl (some_holds (q := v_9.toNat * 1) (Holds.keepF hA1 ((.drop .refl))) (by rw [cells_length fI_len]; have hlt : v_9.toNat < xs.length := (by omega); omega)) (by omega) (show v_9.toNat < xs.length from (by omega))) rfl rfl rfl ?_
  refine wl_v (ov_load tI3 (Holds.keepF hA1 ((.drop .refl))) rfl (get_fI (show v_9.toNat < xs.length from (by omega)))) rfl rfl rfl ?_
  refine wl_v (ov_assign rfl) rfl rfl rfl ?_
  refine wl_nil ?_
  refine ce_then ?_
  refine cw_ret ?_
  refine ce_results (v := .int .i64 ((xs.getD v_9.toNat 0))) (res1 rfl (rv_t rfl)) (fun w' hw => ?_)
  exact ⟨(xs.getD v_9.toNat 0), (getD_mem 0 (by omega)), rfl, ((.cons (.head) (.refl) : Keep _ _).ss hw)⟩
end Go.Proofs.Ytholcpgoioaccaa.W11
