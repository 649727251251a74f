/- Walks of functions of the given program: each returns what its Lean function says and leaves the memory that was there as it was. Conditions: those of each theorem. -/
import Derived.Test.YtkkllkkjdbpjpaaSm
import Derived.Test.YtkkllkkjdbpjpaaProg
import Derived.Test.YtkkllkkjdbpjpaaPl
import Derived.Test.YtkkllkkjdbpjpaaPo
import Derived.Test.YtkkllkkjdbpjpaaPd
import Derived.Test.YtkkllkkjdbpjpaaPe
import Derived.Test.YtkkllkkjdbpjpaaPh
import Derived.Test.YtkkllkkjdbpjpaaPm
import Derived.Test.YtkkllkkjdbpjpaaPc
import Derived.Test.YtkkllkkjdbpjpaaPs
import Derived.Test.YtkkllkkjdbpjpaaPt
import Derived.Test.YtkkllkkjdbpjpaaPu
import Derived.Test.YtkkllkkjdbpjpaaPv
import Derived.Test.YtkkllkkjdbpjpaaPw
import Derived.Test.YtkkllkkjdbpjpaaPx
import Derived.Test.YtkkllkkjdbpjpaaPy
import Derived.Test.YtkkllkkjdbpjpaaPz
import Derived.Test.YtkkllkkjdbpjpaaPr
import Derived.Test.YtkkllkkjdbpjpaaPa
import Derived.Test.YtkkllkkjdbpjpaaPn
import Derived.Test.YtkkllkkjdbpjpaaPj
import Derived.Test.YtkkllkkjdbpjpaaPq
import Derived.Test.YtkkllkkjdbpjpaaSp
import Derived.Test.YtkkllkkjdbpjpaaPp
import Derived.Test.YtkkllkkjdbpjpaaSs
import Derived.Test.YtkkllkkjdbpjpaaSr
import Derived.Test.YtkkllkkjdbpjpaaPb
import Derived.Test.YtkkllkkjdbpjpaaSe
import Derived.Test.YtkkllkkjdbpjpaaSf
import Derived.Test.YtkkllkkjdbpjpaaT
import Derived.Test.YtkkllkkjdbpjpaaW5
import Derived.KernelRfl
namespace Go.Proofs.Ytkkllkkjdbpjpaa.W11
open Go.Sx Go.RowKit Go.Proofs.Ytkkllkkjdbpjpaa.T Go.Proofs.Ytkkllkkjdbpjpaa.W5
open Go.Plain
set_option linter.unusedVariables false
set_option maxRecDepth 100000 in
theorem newReader_c (w : World) (Ar : Option Addr) (nr : Nat) (cr : Nat) (bs : List (Nat)) (hAr : At w Ar (cells fY bs)) (eAr : bs.length = nr) (lAr : nr ≤ cr) : Calls Try.prog 32 #[.slice Ar (nr) (cr)] w (Ret fun rv w' => ∃ g n2, (n2 ≤ nr ∧ n2 ≤ 2000) ∧ rv = elp (some ⟨g, 0, none⟩) (0) ∧ New w w' [blk g [.slice Ar (n2) (cr), .int .i64 (0)] 100]) := by
  have oAr := hAr.atB
  subst eAr
  refine fn_enter (args := [.slice Ar (bs.length) (cr)]) Try.func32 rfl Try.ntmps32 rfl (SS.start w) ?_
  refine cw_seq ?_
  refine cw_region ?_
  refine wl_v (ov_assign rfl) rfl rfl rfl ?_
  refine wl_nil ?_
  refine ce_then ?_
  refine cw_seq ?_
  refine cw_seq ?_
  refine cw_region ?_
  refine wl_v (ov_move rfl) rfl rfl rfl ?_
  refine wl_v (ov_len (sliceI_spec sI22) rfl) rfl rfl rfl ?_
  refine wl_if (ov_gtr rfl rfl) rfl rfl rfl (fun c5 => ?_) (fun c5 => ?_)
  ·
    refine wl_nil ?_
    refine ce_then ?_
    refine cw_true rfl ?_
    refine cw_region ?_
    refine wl_v (ov_move rfl) rfl rfl rfl ?_
    refine wl_v (ov_slice_h (h := 2000) sI22 tI5 rfl rfl (by omega)) rfl rfl rfl ?_
    refine wl_v (ov_assign rfl) rfl rfl rfl ?_
    refine wl_nil ?_
    refine ce_then ?_
    refine cw_seq ?_
    refine cw_region ?_
    refine wl_v (ov_move rfl) rfl rfl rfl ?_
    refine wl_v (ov_build (is := [0]) (vs := [.slice Ar (2000) (cr)]) (v := .agg #[.slice Ar (2000) (cr), .int .i64 (0)]) rfl rfl (fun _ => by kernel_rfl)) rfl rfl rfl ?_
    refine wl_r (or_box rfl rfl) rfl rfl (kt1 rfl (fun g10 => ?_))
    refine wl_v (ov_assign rfl) rfl rfl rfl ?_
    refine wl_nil ?_
    refine ce_then ?_
    refine cw_ret ?_
    refine ce_results (v := elp (some ⟨g10, 0, none⟩) (0)) (res1 rfl (rv_t rfl)) (fun w' hw => ?_)
    exact ⟨g10, 2000, ⟨by omega, by omega⟩, rfl, ((.cons (.head) (.nil) : Keep _ _).ss hw).to_new⟩
  ·
    refine wl_nil ?_
    refine ce_then ?_
    refine cw_false rfl ?_
    refine cw_skip ?_
    refine ce_then ?_
    refine cw_seq ?_
    refine cw_region ?_
    refine wl_v (ov_move rfl) rfl rfl rfl ?_
    refine wl_v (ov_build (is := [0]) (vs := [.slice Ar (bs.length) (cr)]) (v := .agg #[.slice Ar (bs.length) (cr), .int .i64 (0)]) rfl rfl (fun _ => by kernel_rfl)) rfl rfl rfl ?_
    refine wl_r (or_box rfl rfl) rfl rfl (kt1 rfl (fun g10 => ?_))
    refine wl_v (ov_assign rfl) rfl rfl rfl ?_
    refine wl_nil ?_
    refine ce_then ?_
    refine cw_ret ?_
    refine ce_results (v := elp (some ⟨g10, 0, none⟩) (0)) (res1 rfl (rv_t rfl)) (fun w' hw => ?_)
    exact ⟨g10, bs.length, ⟨by omega, by omega⟩, rfl, ((.cons (.head) (.nil) : Keep _ _).ss hw).to_new⟩
set_option maxRecDepth 100000 in
theorem pick_c (w w0 : World) (Bd : Nat) (F : List Ent) (m : Int) (g : Nat) (Ar : Option Addr) (nr : Nat) (cr : Nat) (bs : List Nat) (p : Nat) (hAr : Holds (SS w0 Bd F) Ar (cells fY bs)) (eAr : bs.length = nr) (lAr : nr ≤ cr) (hy : nr ≤ 2000 ∧ (∀ x ∈ bs, x < 256) ∧ p ≤ 100000) (hm : m ≤ 1000000) (hss : SS w0 Bd ((blk g [.slice Ar (nr) (cr), .int .i64 (((p : Nat) : Int))] 100) :: F) w) : Calls Try.prog 76 #[elp (some ⟨g, 0, none⟩) (0), .int .i64 (m)] w (Ret fun rv w' => ∃ v, (0 ≤ v ∧ (v < m ∨ (v = 0 ∧ m < 1))) ∧ rv = .int .i64 (v) ∧ SS w0 Bd ((blk g [.slice Ar (nr) (cr), .int .i64 (((p + 1 : Nat) : Int))] 100) :: F) w') := by
  refine fn_enter (args := [elp (some ⟨g, 0, none⟩) (0), .int .i64 (m)]) Try.func76 rfl Try.ntmps76 rfl hss ?_
  refine cw_seq ?_
  refine cw_region ?_
  refine wl_v (ov_assign rfl) rfl rfl rfl ?_
  refine wl_nil ?_
  refine ce_then ?_
  refine cw_seq ?_
  refine cw_region ?_
  refine wl_v (ov_move rfl) rfl rfl rfl ?_
  refine wl_v (ov_move rfl) rfl rfl rfl ?_
  refine wl_v (ov_nilCheckP rfl) rfl rfl rfl ?_
  refine wl_v (ov_fieldAddr fI100_1 some_lit rfl) rfl rfl rfl ?_
  refine wl_v (ov_load tI3 (holds_blk (List.Mem.head _)) rfl rfl) rfl rfl rfl ?_
  refine wl_v (ov_add (r := ((p + 1 : Nat) : Int)) rfl rfl rfl (by omega)) rfl rfl rfl ?_
  refine wl_v (ov_nilCheckP rfl) rfl rfl rfl ?_
  refine wl_v (ov_fieldAddr fI100_1 some_lit rfl) rfl rfl rfl ?_
  refine wl_r0 (or_store_blk (vs := [.int .i64 (((p + 1 : Nat) : Int))]) (cs' := [.slice Ar (nr) (cr), .int .i64 (((p + 1 : Nat) : Int))]) (.head) tI3 rfl rfl rfl rfl (Nat.le_of_ble_eq_true rfl) rfl) rfl rfl (kn0 ?_)
  refine wl_nil ?_
  refine ce_then ?_
  refine cw_seq ?_
  refine cw_seq ?_
  refine cw_region ?_
  refine wl_v (ov_move rfl) rfl rfl rfl ?_
  refine wl_if (ov_lss rfl rfl) rfl rfl rfl (fun c16 => ?_) (fun c16 => ?_)
  ·
    refine wl_v (ov_move rfl) rfl rfl rfl ?_
    refine wl_not rfl rfl rfl rfl rfl rfl ?_
    refine wl_not rfl rfl rfl rfl rfl rfl ?_
    refine wl_not rfl rfl rfl rfl rfl rfl ?_
    refine wl_not rfl rfl rfl rfl rfl rfl ?_
    refine wl_not rfl rfl rfl rfl rfl rfl ?_
    refine wl_not rfl rfl rfl rfl rfl rfl ?_
    refine wl_v (ov_pick_t rfl rfl) rfl rfl rfl ?_
    refine wl_nil ?_
    refine ce_then ?_
    refine cw_true rfl ?_
    refine cw_seq ?_
    refine cw_region ?_
    refine wl_v (ov_assign rfl) rfl rfl rfl ?_
    refine wl_nil ?_
    refine ce_then ?_
    refine cw_ret ?_
    refine ce_then_ret ?_
    refine ce_results (v := .int .i64 (0)) (res1 rfl (rv_t rfl)) (fun w' hw => ?_)
    exact ⟨0, ⟨by omega, by omega⟩, rfl, ((.cons (.head) (.refl) : Keep _ _).ss hw)⟩
  ·
    refine wl_v (ov_move rfl) rfl rfl rfl ?_
    refine wl_go rfl rfl ?_
    refine wl_v (ov_move rfl) rfl rfl rfl ?_
    refine wl_go rfl rfl ?_
    refine wl_v (ov_nilCheckP rfl) rfl rfl rfl ?_
    refine wl_go rfl rfl ?_
    refine wl_v (ov_fieldAddr fI100_0 some_lit rfl) rfl rfl rfl ?_
    refine wl_go rfl rfl ?_
    refine wl_v (ov_load tI22 (holds_blk (List.Mem.head _)) rfl rfl) rfl rfl rfl ?_
    refine wl_go rfl rfl ?_
    refine wl_v (ov_len (sliceI_spec sI22) rfl) rfl rfl rfl ?_
    refine wl_go rfl rfl ?_
    refine wl_if (ov_eql rfl rfl) rfl rfl rfl (fun c23 => ?_) (fun c23 => ?_)
    ·
      refine wl_v (ov_pick_f rfl rfl) rfl rfl rfl ?_
      refine wl_nil ?_
      refine ce_then ?_
      refine cw_true rfl ?_
      refine cw_seq ?_
      refine cw_region ?_
      refine wl_v (ov_assign rfl) rfl rfl rfl ?_
      refine wl_nil ?_
      refine ce_then ?_
      refine cw_ret ?_
      refine ce_then_ret ?_
      refine ce_results (v := .int .i64 (0)) (res1 rfl (rv_t rfl)) (fun w' hw => ?_)
      exact ⟨0, ⟨by omega, by omega⟩, rfl, ((.cons (.head) (.refl) : Keep _ _).ss hw)⟩
    ·
      refine wl_v (ov_pick_f rfl rfl) rfl rfl rfl ?_
      refine wl_nil ?_
      refine ce_then ?_
      refine cw_false rfl ?_
      refine cw_skip ?_
      refine ce_then ?_
      refine cw_seq ?_
      refine cw_region ?_
      refine wl_v (ov_move rfl) rfl rfl rfl ?_
      refine wl_v (ov_nilCheckP rfl) rfl rfl rfl ?_
      refine wl_v (ov_fieldAddr fI100_1 some_lit rfl) rfl rfl rfl ?_
      refine wl_v (ov_load tI3 (holds_blk (List.Mem.head _)) rfl rfl) rfl rfl rfl ?_
      refine wl_v (ov_sub (r := ((p : Nat) : Int)) rfl rfl (by omega) (by omega)) rfl rfl rfl ?_
      refine wl_v (ov_assign rfl) rfl rfl rfl ?_
      refine wl_nil ?_
      refine ce_then ?_
      refine cw_seq ?_
      refine cw_seq ?_
      refine cw_region ?_
      refine wl_v (ov_move rfl) rfl rfl rfl ?_
      refine wl_v (ov_move rfl) rfl rfl rfl ?_
      refine wl_v (ov_nilCheckP rfl) rfl rfl rfl ?_
      refine wl_v (ov_fieldAddr fI100_0 some_lit rfl) rfl rfl rfl ?_
      refine wl_v (ov_load tI22 (holds_blk (List.Mem.head _)) rfl rfl) rfl rfl rfl ?_
      refine wl_v (ov_len (sliceI_spec sI22) rfl) rfl rfl rfl ?_
      refine wl_if (ov_lss rfl rfl) rfl rfl rfl (fun c36 => ?_) (fun c36 => ?_)
      ·
        refine wl_nil ?_
        refine ce_then ?_
        refine cw_true rfl ?_
        refine cw_seq ?_
        refine cw_region ?_
        refine wl_v (ov_move rfl) rfl rfl rfl ?_
        refine wl_v (ov_nilCheckP rfl) rfl rfl rfl ?_
        refine wl_v (ov_fieldAddr fI100_0 some_lit rfl) rfl rfl rfl ?_
        refine wl_v (ov_load tI22 (holds_blk (List.Mem.head _)) rfl rfl) rfl rfl rfl ?_
        refine wl_v (ov_move rfl) rfl rfl rfl ?_
        refine wl_v (ov_index (k := p) (c := cr) sI22 tI5 rfl rfl (some_holds (q := p * 1) (Holds.keepF hAr ((.drop .refl))) (by rw [cells_length fY_len]; have hlt : p < bs.length := (by first | omega | (simp; omega)); omega)) (show p < nr from (by first | omega | (simp; omega)))) rfl rfl rfl ?_
        refine wl_v (ov_load tI5 (Holds.keepF hAr ((.drop .refl))) rfl (get_fY (show p < bs.length from (by first | omega | (simp; omega))))) rfl rfl rfl ?_
        have hb := hy.2.1 _ (getD_mem (xs := bs) (k := p) 0 (by omega))
        refine wl_v (ov_convi (by rw [uI5] <;> rfl) uI3 rfl (by omega)) rfl rfl rfl ?_
        refine wl_v (ov_move rfl) rfl rfl rfl ?_
        refine wl_v (ov_rem (r := (((bs.getD p 0) : Nat) : Int) % m) rfl rfl (by omega) (by omega) rfl) rfl rfl rfl ?_
        refine wl_v (ov_assign rfl) rfl rfl rfl ?_
        refine wl_nil ?_
        refine ce_then ?_
        refine cw_ret ?_
        refine ce_then_ret ?_
        refine ce_results (v := .int .i64 ((((bs.getD p 0) : Nat) : Int) % m)) (res1 rfl (rv_t rfl)) (fun w' hw => ?_)
        exact ⟨(((bs.getD p 0) : Nat) : Int) % m, ⟨Int.emod_nonneg _ (by omega), .inl (Int.emod_lt_of_pos _ (by omega))⟩, rfl, ((.cons (.head) (.refl) : Keep _ _).ss hw)⟩
      ·
        refine wl_nil ?_
        refine ce_then ?_
        refine cw_false rfl ?_
        refine cw_skip ?_
        refine ce_then ?_
        refine cw_seq ?_
        refine cw_draw mixO [] (.cons (.head) (.refl)) rfl ?_
        refine wg_takep (i := 0) rfl (ov_move rfl) rfl rfl rfl (by kernel_rfl) (by kernel_rfl) (by kernel_rfl) rfl ?_
        refine wg_take (i := 1) rfl (ov_nilCheckP rfl) rfl rfl rfl (by kernel_rfl) (by kernel_rfl) (by kernel_rfl) (by kernel_rfl) ?_
        refine wg_take (i := 2) rfl (ov_fieldAddr fI100_0 some_lit rfl) rfl rfl rfl (by kernel_rfl) (by kernel_rfl) (by kernel_rfl) (by kernel_rfl) ?_
        refine wg_take (i := 3) rfl (ov_load tI22 (holds_blk (List.Mem.head _)) rfl rfl) rfl rfl rfl (by kernel_rfl) (by kernel_rfl) (by kernel_rfl) (by kernel_rfl) ?_
        refine wg_takep (i := 4) rfl (ov_move rfl) rfl rfl rfl (by kernel_rfl) (by kernel_rfl) (by kernel_rfl) rfl ?_
        refine wg_takep (i := 5) rfl (ov_move rfl) rfl rfl rfl (by kernel_rfl) (by kernel_rfl) (by kernel_rfl) rfl ?_
        refine wg_take (i := 6) rfl (ov_nilCheckP rfl) rfl rfl rfl (by kernel_rfl) (by kernel_rfl) (by kernel_rfl) (by kernel_rfl) ?_
        refine wg_take (i := 7) rfl (ov_fieldAddr fI100_0 some_lit rfl) rfl rfl rfl (by kernel_rfl) (by kernel_rfl) (by kernel_rfl) (by kernel_rfl) ?_
        refine wg_take (i := 8) rfl (ov_load tI22 (holds_blk (List.Mem.head _)) rfl rfl) rfl rfl rfl (by kernel_rfl) (by kernel_rfl) (by kernel_rfl) (by kernel_rfl) ?_
        refine wg_takep (i := 9) rfl (ov_len (sliceI_spec sI22) rfl) rfl rfl rfl (by kernel_rfl) (by kernel_rfl) (by kernel_rfl) rfl ?_
        refine wg_takep (i := 10) rfl (ov_rem (r := ((p % nr : Nat) : Int)) rfl rfl (by omega) (by omega) (Int.natCast_emod _ _).symm) rfl rfl rfl (by kernel_rfl) (by kernel_rfl) (by kernel_rfl) rfl ?_
        refine wg_take (i := 11) rfl (ov_index (k := p % nr) (c := cr) sI22 tI5 rfl rfl (some_holds (q := (p % nr) * 1) (Holds.keepF hAr ((.drop .refl))) (by rw [cells_length fY_len]; have hlt : p % nr < bs.length := (by have := Nat.mod_lt p (show 0 < nr from by omega); omega); omega)) (show p % nr < nr from (by have := Nat.mod_lt p (show 0 < nr from by omega); omega))) rfl rfl rfl (by kernel_rfl) (by kernel_rfl) (by kernel_rfl) (by kernel_rfl) ?_
        refine wg_take (i := 12) rfl (ov_load tI5 (Holds.keepF hAr ((.drop .refl))) rfl (get_fY (show p % nr < bs.length from (by have := Nat.mod_lt p (show 0 < nr from by omega); omega)))) rfl rfl rfl (by kernel_rfl) (by kernel_rfl) (by kernel_rfl) (by kernel_rfl) ?_
        have hb1 := hy.2.1 _ (getD_mem (xs := bs) (k := p % nr) 0 (by have := Nat.mod_lt p (show 0 < nr from by omega); omega))
        refine wg_take (i := 13) rfl (ov_convi (by rw [uI5] <;> rfl) uI3 rfl (by omega)) rfl rfl rfl (by kernel_rfl) (by kernel_rfl) (by kernel_rfl) (by kernel_rfl) ?_
        refine wg_takep (i := 14) rfl (ov_mul (r := (((bs.getD (p % nr) 0) * 131 : Nat) : Int)) rfl rfl (by omega) (by omega)) rfl rfl rfl (by kernel_rfl) (by kernel_rfl) (by kernel_rfl) rfl ?_
        refine wg_takep (i := 15) rfl (ov_move rfl) rfl rfl rfl (by kernel_rfl) (by kernel_rfl) (by kernel_rfl) rfl ?_
        refine wg_take (i := 16) rfl (ov_nilCheckP rfl) rfl rfl rfl (by kernel_rfl) (by kernel_rfl) (by kernel_rfl) (by kernel_rfl) ?_
        refine wg_take (i := 17) rfl (ov_fieldAddr fI100_0 some_lit rfl) rfl rfl rfl (by kernel_rfl) (by kernel_rfl) (by kernel_rfl) (by kernel_rfl) ?_
        refine wg_take (i := 18) rfl (ov_load tI22 (holds_blk (List.Mem.head _)) rfl rfl) rfl rfl rfl (by kernel_rfl) (by kernel_rfl) (by kernel_rfl) (by kernel_rfl) ?_
        refine wg_takep (i := 19) rfl (ov_move rfl) rfl rfl rfl (by kernel_rfl) (by kernel_rfl) (by kernel_rfl) rfl ?_
        refine wg_takep (i := 20) rfl (ov_mul (r := ((p * 7 : Nat) : Int)) rfl rfl (by omega) (by omega)) rfl rfl rfl (by kernel_rfl) (by kernel_rfl) (by kernel_rfl) rfl ?_
        refine wg_takep (i := 21) rfl (ov_add (r := (((p * 7) + 3 : Nat) : Int)) rfl rfl rfl (by omega)) rfl rfl rfl (by kernel_rfl) (by kernel_rfl) (by kernel_rfl) rfl ?_
        refine wg_takep (i := 22) rfl (ov_move rfl) rfl rfl rfl (by kernel_rfl) (by kernel_rfl) (by kernel_rfl) rfl ?_
        refine wg_take (i := 23) rfl (ov_nilCheckP rfl) rfl rfl rfl (by kernel_rfl) (by kernel_rfl) (by kernel_rfl) (by kernel_rfl) ?_
        refine wg_take (i := 24) rfl (ov_fieldAddr fI100_0 some_lit rfl) rfl rfl rfl (by kernel_rfl) (by kernel_rfl) (by kernel_rfl) (by kernel_rfl) ?_
        refine wg_take (i := 25) rfl (ov_load tI22 (holds_blk (List.Mem.head _)) rfl rfl) rfl rfl rfl (by kernel_rfl) (by kernel_rfl) (by kernel_rfl) (by kernel_rfl) ?_
        refine wg_takep (i := 26) rfl (ov_len (sliceI_spec sI22) rfl) rfl rfl rfl (by kernel_rfl) (by kernel_rfl) (by kernel_rfl) rfl ?_
        refine wg_takep (i := 27) rfl (ov_rem (r := (((p * 7 + 3) % nr : Nat) : Int)) rfl rfl (by omega) (by omega) (Int.natCast_emod _ _).symm) rfl rfl rfl (by kernel_rfl) (by kernel_rfl) (by kernel_rfl) rfl ?_
        refine wg_take (i := 28) rfl (ov_index (k := (p * 7 + 3) % nr) (c := cr) sI22 tI5 rfl rfl (some_holds (q := ((p * 7 + 3) % nr) * 1) (Holds.keepF hAr ((.drop .refl))) (by rw [cells_length fY_len]; have hlt : (p * 7 + 3) % nr < bs.length := (by have := Nat.mod_lt (p * 7 + 3) (show 0 < nr from by omega); omega); omega)) (show (p * 7 + 3) % nr < nr from (by have := Nat.mod_lt (p * 7 + 3) (show 0 < nr from by omega); omega))) rfl rfl rfl (by kernel_rfl) (by kernel_rfl) (by kernel_rfl) (by kernel_rfl) ?_
        refine wg_take (i := 29) rfl (ov_load tI5 (Holds.keepF hAr ((.drop .refl))) rfl (get_fY (show (p * 7 + 3) % nr < bs.length from (by have := Nat.mod_lt (p * 7 + 3) (show 0 < nr from by omega); omega)))) rfl rfl rfl (by kernel_rfl) (by kernel_rfl) (by kernel_rfl) (by kernel_rfl) ?_
        have hb2 := hy.2.1 _ (getD_mem (xs := bs) (k := (p * 7 + 3) % nr) 0 (by have := Nat.mod_lt (p * 7 + 3) (show 0 < nr from by omega); omega))
        refine wg_take (i := 30) rfl (ov_convi (by rw [uI5] <;> rfl) uI3 rfl (by omega)) rfl rfl rfl (by kernel_rfl) (by kernel_rfl) (by kernel_rfl) (by kernel_rfl) ?_
        refine wg_takep (i := 31) rfl (ov_mul (r := (((bs.getD ((p * 7 + 3) % nr) 0) * 1117 : Nat) : Int)) rfl rfl (by omega) (by omega)) rfl rfl rfl (by kernel_rfl) (by kernel_rfl) (by kernel_rfl) rfl ?_
        refine wg_takep (i := 32) rfl (ov_add (r := ((((bs.getD (p % nr) 0) * 131) + ((bs.getD ((p * 7 + 3) % nr) 0) * 1117) : Nat) : Int)) rfl rfl rfl (by omega)) rfl rfl rfl (by kernel_rfl) (by kernel_rfl) (by kernel_rfl) rfl ?_
        refine wg_takep (i := 33) rfl (ov_move rfl) rfl rfl rfl (by kernel_rfl) (by kernel_rfl) (by kernel_rfl) rfl ?_
        refine wg_takep (i := 34) rfl (ov_mul (r := ((p * 29 : Nat) : Int)) rfl rfl (by omega) (by omega)) rfl rfl rfl (by kernel_rfl) (by kernel_rfl) (by kernel_rfl) rfl ?_
        refine wg_takep (i := 35) rfl (ov_add (r := (((((bs.getD (p % nr) 0) * 131) + ((bs.getD ((p * 7 + 3) % nr) 0) * 1117)) + (p * 29) : Nat) : Int)) rfl rfl rfl (by omega)) rfl rfl rfl (by kernel_rfl) (by kernel_rfl) (by kernel_rfl) rfl ?_
        refine wg_takep (i := 36) rfl (ov_move rfl) rfl rfl rfl (by kernel_rfl) (by kernel_rfl) (by kernel_rfl) rfl ?_
        refine wg_takep (i := 37) rfl (ov_move rfl) rfl rfl rfl (by kernel_rfl) (by kernel_rfl) (by kernel_rfl) rfl ?_
        refine wg_take (i := 38) rfl (ov_nilCheckP rfl) rfl rfl rfl (by kernel_rfl) (by kernel_rfl) (by kernel_rfl) (by kernel_rfl) ?_
        refine wg_take (i := 39) rfl (ov_fieldAddr fI100_0 some_lit rfl) rfl rfl rfl (by kernel_rfl) (by kernel_rfl) (by kernel_rfl) (by kernel_rfl) ?_
        refine wg_take (i := 40) rfl (ov_load tI22 (holds_blk (List.Mem.head _)) rfl rfl) rfl rfl rfl (by kernel_rfl) (by kernel_rfl) (by kernel_rfl) (by kernel_rfl) ?_
        refine wg_takep (i := 41) rfl (ov_len (sliceI_spec sI22) rfl) rfl rfl rfl (by kernel_rfl) (by kernel_rfl) (by kernel_rfl) rfl ?_
        refine wg_takep (i := 42) rfl (ov_quo (r := ((p / nr : Nat) : Int)) rfl rfl (by omega) (by omega) (Int.natCast_ediv _ _).symm) rfl rfl rfl (by kernel_rfl) (by kernel_rfl) (by kernel_rfl) rfl ?_
        have hq := Nat.div_le_self p nr
        refine wg_takep (i := 43) rfl (ov_mul (r := (((p / nr) * 53 : Nat) : Int)) rfl rfl (by omega) (by omega)) rfl rfl rfl (by kernel_rfl) (by kernel_rfl) (by kernel_rfl) rfl ?_
        refine wg_takep (i := 44) rfl (ov_add (r := ((((((bs.getD (p % nr) 0) * 131) + ((bs.getD ((p * 7 + 3) % nr) 0) * 1117)) + (p * 29)) + ((p / nr) * 53) : Nat) : Int)) rfl rfl rfl (by omega)) rfl rfl rfl (by kernel_rfl) (by kernel_rfl) (by kernel_rfl) rfl ?_
        refine wg_takep (i := 45) rfl (ov_assign rfl) rfl rfl rfl (by kernel_rfl) (by kernel_rfl) (by kernel_rfl) rfl ?_
        refine wg_done (by kernel_rfl) ?_
        refine ce_then ?_
        refine cw_seq ?_
        refine cw_region ?_
        refine wl_v (ov_move rfl) rfl rfl rfl ?_
        refine wl_v (ov_move rfl) rfl rfl rfl ?_
        refine wl_v (ov_quo (r := ((((((bs.getD (p % nr) 0) * 131) + ((bs.getD ((p * 7 + 3) % nr) 0) * 1117)) + (p * 29)) + ((p / nr) * 53) : Nat) : Int) / 64) rfl rfl (by omega) (by omega) rfl) rfl rfl rfl ?_
        refine wl_v (ov_xor rfl rfl) rfl rfl rfl ?_
        have hx := xorI_bd (i := ((((((bs.getD (p % nr) 0) * 131) + ((bs.getD ((p * 7 + 3) % nr) 0) * 1117)) + (p * 29)) + ((p / nr) * 53) : Nat) : Int)) (j := ((((((bs.getD (p % nr) 0) * 131) + ((bs.getD ((p * 7 + 3) % nr) 0) * 1117)) + (p * 29)) + ((p / nr) * 53) : Nat) : Int) / 64) (by omega) (by omega)
        refine wl_v (ov_assign rfl) rfl rfl rfl ?_
        refine wl_nil ?_
        refine ce_then ?_
        refine cw_seq ?_
        refine cw_region ?_
        refine wl_v (ov_move rfl) rfl rfl rfl ?_
        refine wl_v (ov_move rfl) rfl rfl rfl ?_
        refine wl_v (ov_rem (r := (xorI ((((((bs.getD (p % nr) 0) * 131) + ((bs.getD ((p * 7 + 3) % nr) 0) * 1117)) + (p * 29)) + ((p / nr) * 53) : Nat) : Int) (((((((bs.getD (p % nr) 0) * 131) + ((bs.getD ((p * 7 + 3) % nr) 0) * 1117)) + (p * 29)) + ((p / nr) * 53) : Nat) : Int) / 64)) % m) rfl rfl (by omega) (by omega) rfl) rfl rfl rfl ?_
        refine wl_v (ov_assign rfl) rfl rfl rfl ?_
        refine wl_nil ?_
        refine ce_then ?_
        refine cw_ret ?_
        refine ce_results (v := .int .i64 ((xorI ((((((bs.getD (p % nr) 0) * 131) + ((bs.getD ((p * 7 + 3) % nr) 0) * 1117)) + (p * 29)) + ((p / nr) * 53) : Nat) : Int) (((((((bs.getD (p % nr) 0) * 131) + ((bs.getD ((p * 7 + 3) % nr) 0) * 1117)) + (p * 29)) + ((p / nr) * 53) : Nat) : Int) / 64)) % m)) (res1 rfl (rv_t rfl)) (fun w' hw => ?_)
        exact ⟨(xorI ((((((bs.getD (p % nr) 0) * 131) + ((bs.getD ((p * 7 + 3) % nr) 0) * 1117)) + (p * 29)) + ((p / nr) * 53) : Nat) : Int) (((((((bs.getD (p % nr) 0) * 131) + ((bs.getD ((p * 7 + 3) % nr) 0) * 1117)) + (p * 29)) + ((p / nr) * 53) : Nat) : Int) / 64)) % m, ⟨Int.emod_nonneg _ (by omega), .inl (Int.emod_lt_of_pos _ (by omega))⟩, rfl, ((.cons (.head) (.refl) : Keep _ _).ss hw)⟩
set_option maxRecDepth 100000 in
theorem one_c (w w0 : World) (Bd : Nat) (F : List Ent) (A1 : Option Addr) (n1 : Nat) (c1 : Nat) (xs : List (Int)) (g : Nat) (Ar : Option Addr) (nr : Nat) (cr : Nat) (bs : List Nat) (p : Nat) (hA1 : Holds (SS w0 Bd F) A1 (cells fI xs)) (eA1 : xs.length = n1) (lA1 : n1 ≤ c1) (hAr : Holds (SS w0 Bd F) Ar (cells fY bs)) (eAr : bs.length = nr) (lAr : nr ≤ cr) (hy : nr ≤ 2000 ∧ (∀ x ∈ bs, x < 256) ∧ p ≤ 100000) (h0 : 0 < n1 ∧ n1 ≤ 1000) (hss : SS w0 Bd ((blk g [.slice Ar (nr) (cr), .int .i64 (((p : Nat) : Int))] 100) :: F) w) : Calls Try.prog 77 #[elp (some ⟨g, 0, none⟩) (0), .slice A1 (n1) (c1)] w (Ret fun rv w' => ∃ v, (v ∈ xs) ∧ rv = .int .i64 (v) ∧ SS w0 Bd ((blk g [.slice Ar (nr) (cr), .int .i64 (((p + 1 : Nat) : Int))] 100) :: F) w') := by
  subst eA1
  refine fn_enter (args := [elp (some ⟨g, 0, none⟩) (0), .slice A1 (xs.length) (c1)]) Try.func77 rfl Try.ntmps77 rfl hss ?_
  refine cw_seq ?_
  refine cw_region ?_
  refine wl_v (ov_assign rfl) rfl rfl rfl ?_
  refine wl_nil ?_
  refine ce_then ?_
  refine cw_seq ?_
  refine cw_region ?_
  refine wl_v (ov_move rfl) rfl rfl rfl ?_
  refine wl_v (ov_move rfl) rfl rfl rfl ?_
  refine wl_v (ov_move rfl) rfl rfl rfl ?_
  refine wl_v (ov_len (sliceI_spec sI38) rfl) rfl rfl rfl ?_
  refine wl_r (or_call (fv := []) (vs := [elp (some ⟨g, 0, none⟩) (0), .int .i64 (((xs.length : Nat) : Int))]) (cs := []) en76 rfl rfl (call_o (.cons (.head) (.refl)) (fun w hw => pick_c w _ _ _ ((xs.length : Nat) : Int) g Ar nr cr bs p (Holds.keepF hAr (.refl)) (by first | rfl | assumption | (simp; done) | (simp; omega)) lAr ⟨hy.1, hy.2.1, by omega⟩ (by first | assumption | omega | (simp; omega)) hw))) rfl rfl (kt1p rfl (fun v_9 h_9 => ?_))
  refine wl_v (ov_indexg sI38 tI3 rfl rfl (some_holds (q := v_9.toNat * 1) (Holds.keepF hA1 ((.drop .refl))) (by rw [cells_length fI_len]; have hlt : v_9.toNat < xs.length := (by omega); omega)) (by omega) (show v_9.toNat < xs.length from (by omega))) rfl rfl rfl ?_
  refine wl_v (ov_load tI3 (Holds.keepF hA1 ((.drop .refl))) rfl (get_fI (show v_9.toNat < xs.length from (by omega)))) rfl rfl rfl ?_
  refine wl_v (ov_assign rfl) rfl rfl rfl ?_
  refine wl_nil ?_
  refine ce_then ?_
  refine cw_ret ?_
  refine ce_results (v := .int .i64 ((xs.getD v_9.toNat 0))) (res1 rfl (rv_t rfl)) (fun w' hw => ?_)
  exact ⟨(xs.getD v_9.toNat 0), (getD_mem 0 (by omega)), rfl, ((.cons (.head) (.refl) : Keep _ _).ss hw)⟩
set_option maxRecDepth 100000 in
theorem pairsS_c (w : World) (n : Nat) (hn : n ≤ 10) : Calls Try.prog 120 #[.int .i64 (((n : Nat) : Int))] w (Ret fun rv w' => ∃ A2 c2, ((prs n).length ≤ c2) ∧ rv = .slice A2 ((prs n).length) (c2) ∧ New w w' [row 65 2 A2 ((prs n).length) (c2) (cells fE (prs n))]) := by
  refine fn_enter (args := [.int .i64 (((n : Nat) : Int))]) Try.func120 rfl Try.ntmps120 rfl (SS.start w) ?_
  refine cw_seq ?_
  refine cw_region ?_
  refine wl_v (ov_assign rfl) rfl rfl rfl ?_
  refine wl_nil ?_
  refine ce_then ?_
  refine cw_seq ?_
  refine cw_region ?_
  refine wl_r (or_buildSlice (e := 65) (size := 2) (is := []) (vs := []) (cs := cells fE ([])) rfl rfl rfl (by decide) (fun _ => by kernel_rfl)) rfl rfl (kt1 rfl (fun g6 => ?_))
  refine wl_v (ov_assign rfl) rfl rfl rfl ?_
  refine wl_nil ?_
  refine ce_then ?_
  refine cw_seq ?_
  refine cw_seq ?_
  refine cw_region ?_
  refine wl_v (ov_assign rfl) rfl rfl rfl ?_
  refine wl_nil ?_
  refine ce_then ?_
  refine cw_block ?_
  refine cw_loop3 (fun (a : Nat) (A2 : Option Addr) (c2 : Nat) => [(0, .int .i64 (((n : Nat) : Int))), (2, .slice none (0) (0)), (3, .slice A2 ((prsTo n a).length) (c2)), (4, .int .i64 (((a : Nat) : Int)))]) (fun (a : Nat) (A2 : Option Addr) (c2 : Nat) => [row 65 2 A2 ((prsTo n a).length) (c2) (cells fE (prsTo n a))]) (fun (a : Nat) (A2 : Option Addr) (c2 : Nat) => a ≤ n ∧ (prsTo n a).length ≤ c2) (fun (a : Nat) (A2 : Option Addr) (c2 : Nat) => n - a) 0 (some ⟨g6, 0, none⟩) 0 ⟨by omega, Nat.le_refl _⟩ (.cons rfl (.cons rfl (.cons rfl (.cons (congrArg (fun z => some (Value.int .i64 z)) (show 0 = ((0 : Nat) : Int) by first | omega | rfl | (simp; done))) (.nil))))) (.consE (show row 65 2 (some ⟨g6, 0, none⟩) (0) (0) (cells fE ([])) = row 65 2 (some ⟨g6, 0, none⟩) ((prsTo n 0).length) (0) (cells fE (prsTo n 0)) by rfl) (.head) (.nil)) ?_
  intro R0 a A2 c2 hk hR0
  obtain ⟨hk1, hk2⟩ := hk
  have hpl := prsTo_len n hn a hk1
  refine cw_seq ?_
  refine cw_seq ?_
  refine cw_region ?_
  refine wl_v (ov_move rfl) rfl rfl rfl ?_
  refine wl_v (ov_move rfl) rfl rfl rfl ?_
  refine wl_if (ov_lss rfl rfl) rfl rfl rfl (fun c9 => ?_) (fun c9 => ?_)
  ·
    refine wl_nil ?_
    refine ce_then ?_
    refine cw_true rfl ?_
    refine cw_skip ?_
    refine ce_then ?_
    refine cw_seq ?_
    refine cw_block ?_
    refine cw_seq ?_
    refine cw_region ?_
    refine wl_v (ov_move rfl) rfl rfl rfl ?_
    refine wl_v (ov_add (r := ((a + 1 : Nat) : Int)) rfl rfl rfl (by omega)) rfl rfl rfl ?_
    refine wl_v (ov_assign rfl) rfl rfl rfl ?_
    refine wl_nil ?_
    refine ce_then ?_
    refine cw_block ?_
    refine cw_loop3 (fun (k : Nat) (A3 : Option Addr) (c3 : Nat) => [(0, .int .i64 (((n : Nat) : Int))), (2, .slice none (0) (0)), (4, .int .i64 (((a : Nat) : Int))), (3, .slice A3 ((prsTo n a ++ prow a k).length) (c3)), (5, .int .i64 (((a + 1 + k : Nat) : Int)))]) (fun (k : Nat) (A3 : Option Addr) (c3 : Nat) => [row 65 2 A3 ((prsTo n a ++ prow a k).length) (c3) (cells fE (prsTo n a ++ prow a k))]) (fun (k : Nat) (A3 : Option Addr) (c3 : Nat) => k ≤ n - (a + 1) ∧ (prsTo n a ++ prow a k).length ≤ c3) (fun (k : Nat) (A3 : Option Addr) (c3 : Nat) => n - (a + 1) - k) 0 A2 c2 ⟨by omega, by simpa [prow] using hk2⟩ (.cons rfl (.cons rfl (.cons rfl (.cons (congrArg (fun z => some (Value.slice A2 z c2)) (show ((prsTo n a).length) = ((prsTo n a ++ prow a 0).length) from (by simp [prow]))) (.cons (congrArg (fun z => some (Value.int .i64 z)) (show ((a + 1 : Nat) : Int) = ((a + 1 + 0 : Nat) : Int) by first | omega | rfl | (simp; done))) (.nil)))))) (.consE (show row 65 2 A2 ((prsTo n a).length) (c2) (cells fE (prsTo n a)) = row 65 2 A2 ((prsTo n a ++ prow a 0).length) (c2) (cells fE (prsTo n a ++ prow a 0)) by simp [prow]) (.head) (.nil)) ?_
    intro R1 k A3 c3 hk1 hR1
    obtain ⟨hj1, hj2⟩ := hk1
    have hal : (prsTo n a ++ prow a k).length = (prsTo n a).length + k := by rw [List.length_append, prow_length]
    refine cw_seq ?_
    refine cw_seq ?_
    refine cw_region ?_
    refine wl_v (ov_move rfl) rfl rfl rfl ?_
    refine wl_v (ov_move rfl) rfl rfl rfl ?_
    refine wl_if (ov_lss rfl rfl) rfl rfl rfl (fun c16 => ?_) (fun c16 => ?_)
    ·
      refine wl_nil ?_
      refine ce_then ?_
      refine cw_true rfl ?_
      refine cw_skip ?_
      refine ce_then ?_
      refine cw_seq ?_
      refine cw_block ?_
      refine cw_region ?_
      refine wl_v (ov_move rfl) rfl rfl rfl ?_
      refine wl_v (ov_move rfl) rfl rfl rfl ?_
      refine wl_v (ov_move rfl) rfl rfl rfl ?_
      refine wl_v (ov_build (is := [0, 1]) (vs := [.int .i64 (((a : Nat) : Int)), .int .i64 (((a + 1 + k : Nat) : Int))]) (v := .agg #[.int .i64 (((a : Nat) : Int)), .int .i64 (((a + 1 + k : Nat) : Int))]) rfl rfl (fun _ => by kernel_rfl)) rfl rfl rfl ?_
      refine wl_r (or_buildSlice (e := 65) (size := 2) (is := [0]) (vs := [.agg #[.int .i64 (((a : Nat) : Int)), .int .i64 (((a + 1 + k : Nat) : Int))]]) (cs := cells fE ([(((a : Nat) : Int), ((a + 1 + k : Nat) : Int))])) rfl rfl rfl (by decide) (fun _ => by kernel_rfl)) rfl rfl (kt1 rfl (fun g23 => ?_))
      refine wl_r (or_append (c2 := 1) sI23 tI65 rfl (by decide) rfl rfl (.tail .head) (holds_row (List.Mem.head _)) (by rw [cells_length fE_len]; try simp) (one_cells fE_one _) cells_append (by omega) (by omega)) rfl rfl (kt2p rfl (fun A24 c24 h24 => ?_))
      refine wl_v (ov_assign rfl) rfl rfl rfl ?_
      refine wl_nil ?_
      refine ce_block ?_
      refine ce_then ?_
      refine cw_region ?_
      refine wl_v (ov_move rfl) rfl rfl rfl ?_
      refine wl_v (ov_add (r := (((a + 1 + k) + 1 : Nat) : Int)) rfl rfl rfl (by omega)) rfl rfl rfl ?_
      refine wl_v (ov_assign rfl) rfl rfl rfl ?_
      refine wl_nil ?_
      exact fun ac_ w_ hs_ => hR1 (k + 1) A24 c24 ⟨by omega, by rw [prow_succ, ← List.append_assoc, List.length_append]; exact h24⟩ (by omega) ac_ w_ (hs_.weaken (.cons rfl (.cons rfl (.cons rfl (.cons (congrArg (fun z => some (Value.slice A24 z c24)) (show (((prsTo n a ++ prow a k).length) + 1) = ((prsTo n a ++ prow a (k + 1)).length) from (by rw [prow_succ, ← List.append_assoc]; simp [Nat.add_assoc]))) (.cons rfl (.nil)))))) (.consE (show row 65 2 A24 (((prsTo n a ++ prow a k).length) + 1) (c24) (cells fE ((prsTo n a ++ prow a k) ++ ([(((a : Nat) : Int), ((a + 1 + k : Nat) : Int))]))) = row 65 2 A24 ((prsTo n a ++ prow a (k + 1)).length) (c24) (cells fE (prsTo n a ++ prow a (k + 1))) by rw [prow_succ, ← List.append_assoc]; exact row_eq (by simp [Nat.add_assoc]) rfl) (.head) (.nil)))
    ·
      refine wl_nil ?_
      refine ce_then ?_
      refine cw_false rfl ?_
      refine cw_exit ?_
      refine ce_then_exit ?_
      refine ce_then_exit ?_
      refine ce_hit ?_
      refine ce_block ?_
      refine ce_then ?_
      refine cw_region ?_
      refine wl_v (ov_move rfl) rfl rfl rfl ?_
      refine wl_v (ov_add (r := ((a + 1 : Nat) : Int)) rfl rfl rfl (by omega)) rfl rfl rfl ?_
      refine wl_v (ov_assign rfl) rfl rfl rfl ?_
      refine wl_nil ?_
      exact fun ac_ w_ hs_ => hR0 (a + 1) A3 c3 ⟨by omega, by rw [prsTo_succ, show n - (a + 1) = k from by omega]; exact hj2⟩ (by omega) ac_ w_ (hs_.weaken (.cons rfl (.cons rfl (.cons (congrArg (fun z => some (Value.slice A3 z c3)) (show ((prsTo n a ++ prow a k).length) = ((prsTo n (a + 1)).length) from (by rw [prsTo_succ, show n - (a + 1) = k from by omega]))) (.cons rfl (.nil))))) (.consE (show row 65 2 A3 ((prsTo n a ++ prow a k).length) (c3) (cells fE (prsTo n a ++ prow a k)) = row 65 2 A3 ((prsTo n (a + 1)).length) (c3) (cells fE (prsTo n (a + 1))) by rw [prsTo_succ, show n - (a + 1) = k from by omega]) (.head) (.nil)))
  ·
    refine wl_nil ?_
    refine ce_then ?_
    refine cw_false rfl ?_
    refine cw_exit ?_
    refine ce_then_exit ?_
    refine ce_then_exit ?_
    refine ce_hit ?_
    refine ce_then ?_
    refine cw_seq ?_
    refine cw_region ?_
    refine wl_v (ov_move rfl) rfl rfl rfl ?_
    refine wl_v (ov_assign rfl) rfl rfl rfl ?_
    refine wl_nil ?_
    refine ce_then ?_
    refine cw_ret ?_
    refine ce_results (v := .slice A2 ((prsTo n a).length) (c2)) (res1 rfl (rv_t rfl)) (fun w' hw => ?_)
    exact ⟨A2, c2, (by rw [prs, show prsTo n n = prsTo n a from by rw [show n = a from by omega]]; exact hk2), (by rw [prs, show prsTo n n = prsTo n a from by rw [show n = a from by omega]]), ((.consE (show row 65 2 A2 ((prsTo n a).length) (c2) (cells fE (prsTo n a)) = row 65 2 A2 ((prs n).length) (c2) (cells fE (prs n)) by rw [prs, show prsTo n n = prsTo n a from by rw [show n = a from by omega]]) (.head) (.nil) : Keep _ _).ss hw).to_new⟩
set_option maxRecDepth 100000 in
theorem complementS_c (w : World) (m : Nat) (A : Option Addr) (n : Nat) (c : Nat) (es : List (Int × Int)) (hA : At w A (cells fE es)) (eA : es.length = n) (lA : n ≤ c) (hs : es.length ≤ 1048576) (hm : m ≤ 10) : Calls Try.prog 121 #[.agg #[.int .i64 (((m : Nat) : Int)), .slice A (n) (c)]] w (Ret fun rv w' => ∃ A2 c2, ((compl m es (prs m).length).length ≤ c2) ∧ rv = .agg #[.int .i64 (((m : Nat) : Int)), .slice A2 ((compl m es (prs m).length).length) (c2)] ∧ New w w' [row 65 2 A2 ((compl m es (prs m).length).length) (c2) (cells fE (compl m es (prs m).length))]) := by
  have oA := hA.atB
  subst eA
  have hpl := prs_len hm
  refine fn_enter (args := [.agg #[.int .i64 (((m : Nat) : Int)), .slice A (es.length) (c)]]) Try.func121 rfl Try.ntmps121 rfl (SS.start w) ?_
  refine cw_seq ?_
  refine cw_region ?_
  refine wl_r (or_box rfl rfl) rfl rfl (kt1 rfl (fun g1 => ?_))
  refine wl_r (or_alloc tI25 rfl) rfl rfl (kt1 rfl (fun g2 => ?_))
  refine wl_nil ?_
  refine ce_then ?_
  refine cw_seq ?_
  refine cw_region ?_
  refine wl_v (ov_fieldAddr fI25_0 some_lit rfl) rfl rfl rfl ?_
  refine wl_v (ov_load tI3 (holds_blk (List.Mem.tail _ (List.Mem.head _))) rfl rfl) rfl rfl rfl ?_
  refine wl_r (or_buildSlice (e := 65) (size := 2) (is := []) (vs := []) (cs := cells fE ([])) rfl rfl rfl (by decide) (fun _ => by kernel_rfl)) rfl rfl (kt1 rfl (fun g8 => ?_))
  refine wl_v (ov_build (is := [0, 1]) (vs := [.int .i64 (((m : Nat) : Int)), .slice (some ⟨g8, 0, none⟩) (0) (0)]) (v := .agg #[.int .i64 (((m : Nat) : Int)), .slice (some ⟨g8, 0, none⟩) (0) (0)]) rfl rfl (fun _ => by kernel_rfl)) rfl rfl rfl ?_
  refine wl_r (or_alloc tI25 rfl) rfl rfl (kt1 rfl (fun g3 => ?_))
  refine wl_r0 (or_store_blk (vs := [.int .i64 (((m : Nat) : Int)), .slice (some ⟨g8, 0, none⟩) (0) (0)]) (cs' := [.int .i64 (((m : Nat) : Int)), .slice (some ⟨g8, 0, none⟩) (0) (0)]) (.head) tI25 rfl rfl rfl rfl (Nat.le_of_ble_eq_true rfl) rfl) rfl rfl (kn0 ?_)
  refine wl_nil ?_
  refine ce_then ?_
  refine cw_seq ?_
  refine cw_region ?_
  refine wl_v (ov_fieldAddr fI25_0 some_lit rfl) rfl rfl rfl ?_
  refine wl_v (ov_load tI3 (holds_blk (List.Mem.tail _ (List.Mem.tail _ (List.Mem.tail _ (List.Mem.head _))))) rfl rfl) rfl rfl rfl ?_
  refine wl_r (or_call (fv := []) (vs := [.int .i64 (((m : Nat) : Int))]) (cs := []) en120 rfl rfl (call_x2 (fun w hw => pairsS_c w m (by first | assumption | omega | (simp; omega))))) rfl rfl (kt2p rfl (fun A2_12 c2_12 h_12 => ?_))
  refine wl_v (ov_assign rfl) rfl rfl rfl ?_
  refine wl_nil ?_
  refine ce_then ?_
  refine cw_seq ?_
  refine cw_seq ?_
  refine cw_region ?_
  refine wl_v (ov_assign rfl) rfl rfl rfl ?_
  refine wl_nil ?_
  refine ce_then ?_
  refine cw_block ?_
  refine cw_loop3 (fun (k : Nat) (A2 : Option Addr) (c2 : Nat) => [(1, elp (some ⟨g1, 0, none⟩) (0)), (2, elp (some ⟨g2, 0, none⟩) (0)), (3, elp (some ⟨g3, 0, none⟩) (0)), (4, .slice A2_12 ((prs m).length) (c2_12)), (5, .int .i64 (((k : Nat) : Int)))]) (fun (k : Nat) (A2 : Option Addr) (c2 : Nat) => [row 65 2 A2_12 ((prs m).length) (c2_12) (cells fE (prs m)), blk g3 [.int .i64 (((m : Nat) : Int)), .slice A2 ((compl m es k).length) (c2)] 25, row 65 2 A2 ((compl m es k).length) (c2) (cells fE (compl m es k)), blk g2 [.int .i64 (0), .slice none (0) (0)] 25, blk g1 [.int .i64 (((m : Nat) : Int)), .slice A (es.length) (c)] 25]) (fun (k : Nat) (A2 : Option Addr) (c2 : Nat) => k ≤ (prs m).length ∧ (compl m es k).length ≤ c2) (fun (k : Nat) (A2 : Option Addr) (c2 : Nat) => (prs m).length - k) 0 (some ⟨g8, 0, none⟩) 0 ⟨by omega, Nat.le_refl _⟩ (.cons rfl (.cons rfl (.cons rfl (.cons rfl (.cons (congrArg (fun z => some (Value.int .i64 z)) (show 0 = ((0 : Nat) : Int) by first | omega | rfl | (simp; done))) (.nil)))))) (.cons (.head) (.consE (show blk g3 [.int .i64 (((m : Nat) : Int)), .slice (some ⟨g8, 0, none⟩) (0) (0)] 25 = blk g3 [.int .i64 (((m : Nat) : Int)), .slice (some ⟨g8, 0, none⟩) ((compl m es 0).length) (0)] 25 by rfl) (.head) (.consE (show row 65 2 (some ⟨g8, 0, none⟩) (0) (0) (cells fE ([])) = row 65 2 (some ⟨g8, 0, none⟩) ((compl m es 0).length) (0) (cells fE (compl m es 0)) by rfl) (.head) (.cons (.head) (.cons (.head) (.nil)))))) ?_
  intro R0 k A2 c2 hk hR0
  obtain ⟨hk1, hk2⟩ := hk
  have hcl := compl_len m es k
  refine cw_seq ?_
  refine cw_seq ?_
  refine cw_region ?_
  refine wl_v (ov_move rfl) rfl rfl rfl ?_
  refine wl_v (ov_move rfl) rfl rfl rfl ?_
  refine wl_v (ov_len (sliceI_spec sI23) rfl) rfl rfl rfl ?_
  refine wl_if (ov_lss rfl rfl) rfl rfl rfl (fun c16 => ?_) (fun c16 => ?_)
  ·
    refine wl_nil ?_
    refine ce_then ?_
    refine cw_true rfl ?_
    refine cw_skip ?_
    refine ce_then ?_
    refine cw_seq ?_
    refine cw_block ?_
    refine cw_seq ?_
    refine cw_draw mixO [] (.cons (.head) (.cons (.head) (.cons (.head) (.cons (.head) (.cons (.head) (.nil)))))) rfl ?_
    refine wg_take (i := 0) rfl (ov_loadAgg (vs := [.int .i64 (((m : Nat) : Int)), .slice A (es.length) (c)]) tI25 (holds_blk (List.Mem.tail _ (List.Mem.tail _ (List.Mem.tail _ (List.Mem.tail _ (List.Mem.head _)))))) rfl some_lit rfl rfl) rfl rfl rfl (by kernel_rfl) (by kernel_rfl) (by kernel_rfl) (by kernel_rfl) ?_
    refine wg_takep (i := 1) rfl (ov_move rfl) rfl rfl rfl (by kernel_rfl) (by kernel_rfl) (by kernel_rfl) rfl ?_
    refine wg_takep (i := 2) rfl (ov_move rfl) rfl rfl rfl (by kernel_rfl) (by kernel_rfl) (by kernel_rfl) rfl ?_
    refine wg_take (i := 3) rfl (ov_index (k := k) (c := c2_12) sI23 tI65 rfl rfl (some_holds (q := k * 2) (holds_row (List.Mem.head _)) (by rw [cells_length fE_len]; have hlt : k < (prs m).length := (by first | omega | (simp; omega)); omega)) (show k < (prs m).length from (by first | omega | (simp; omega)))) rfl rfl rfl (by kernel_rfl) (by kernel_rfl) (by kernel_rfl) (by kernel_rfl) ?_
    refine wg_take (i := 4) rfl (ov_fieldAddr fI65_0 (some_holds (q := k * 2) (holds_row (List.Mem.head _)) (by rw [cells_length fE_len]; have hlt : k < (prs m).length := (by first | omega | (simp; omega)); omega)) rfl) rfl rfl rfl (by kernel_rfl) (by kernel_rfl) (by kernel_rfl) (by kernel_rfl) ?_
    refine wg_take (i := 5) rfl (ov_load tI3 (holds_row (List.Mem.head _)) rfl (get_fE0 (show k < (prs m).length from (by first | omega | (simp; omega))))) rfl rfl rfl (by kernel_rfl) (by kernel_rfl) (by kernel_rfl) (by kernel_rfl) ?_
    refine wg_takep (i := 6) rfl (ov_move rfl) rfl rfl rfl (by kernel_rfl) (by kernel_rfl) (by kernel_rfl) rfl ?_
    refine wg_takep (i := 7) rfl (ov_move rfl) rfl rfl rfl (by kernel_rfl) (by kernel_rfl) (by kernel_rfl) rfl ?_
    refine wg_take (i := 8) rfl (ov_index (k := k) (c := c2_12) sI23 tI65 rfl rfl (some_holds (q := k * 2) (holds_row (List.Mem.head _)) (by rw [cells_length fE_len]; have hlt : k < (prs m).length := (by first | omega | (simp; omega)); omega)) (show k < (prs m).length from (by first | omega | (simp; omega)))) rfl rfl rfl (by kernel_rfl) (by kernel_rfl) (by kernel_rfl) (by kernel_rfl) ?_
    refine wg_take (i := 9) rfl (ov_fieldAddr fI65_1 (some_holds (q := k * 2) (holds_row (List.Mem.head _)) (by rw [cells_length fE_len]; have hlt : k < (prs m).length := (by first | omega | (simp; omega)); omega)) rfl) rfl rfl rfl (by kernel_rfl) (by kernel_rfl) (by kernel_rfl) (by kernel_rfl) ?_
    refine wg_take (i := 10) rfl (ov_load tI3 (holds_row (List.Mem.head _)) rfl (get_fE1 (show k < (prs m).length from (by first | omega | (simp; omega))))) rfl rfl rfl (by kernel_rfl) (by kernel_rfl) (by kernel_rfl) (by kernel_rfl) ?_
    refine wg_one (i := 11) (by kernel_rfl) ?_
    refine go_r rfl rfl rfl rfl (or_call (fv := []) (vs := [.agg #[.int .i64 (((m : Nat) : Int)), .slice A (es.length) (c)], .int .i64 (((prs m).getD k (0, 0)).1), .int .i64 (((prs m).getD k (0, 0)).2)]) (cs := []) en87 rfl rfl (call_v (fun w hw => hasEdge_c w ((m : Nat) : Int) A es.length c es (((prs m).getD k (0, 0)).1) (((prs m).getD k (0, 0)).2) ((holds_old oA) w hw) rfl lA (by first | assumption | omega | (simp; omega))))) (kt_if rfl (fun c30 => ?_) (fun c30 => ?_))
    ·
      refine gk (.cons (.head) (.cons (.head) (.cons (.head) (.cons (.head) (.cons (.head) (.nil)))))) ?_
      refine wg_takep (i := 12) rfl (ov_not rfl) rfl rfl rfl (by kernel_rfl) (by kernel_rfl) (by kernel_rfl) rfl ?_
      refine wg_done (by kernel_rfl) ?_
      refine ce_then ?_
      refine cw_false rfl ?_
      refine cw_skip ?_
      refine ce_block ?_
      refine ce_then ?_
      refine cw_region ?_
      refine wl_v (ov_move rfl) rfl rfl rfl ?_
      refine wl_v (ov_add (r := ((k + 1 : Nat) : Int)) rfl rfl rfl (by omega)) rfl rfl rfl ?_
      refine wl_v (ov_assign rfl) rfl rfl rfl ?_
      refine wl_nil ?_
      exact fun ac_ w_ hs_ => hR0 (k + 1) A2 c2 ⟨by omega, by rw [compl_succ (by omega), if_pos c30, List.append_nil]; exact hk2⟩ (by omega) ac_ w_ (hs_.weaken (.cons rfl (.cons rfl (.cons rfl (.cons rfl (.cons rfl (.nil)))))) (.cons (.head) (.consE (show blk g3 [.int .i64 (((m : Nat) : Int)), .slice A2 ((compl m es k).length) (c2)] 25 = blk g3 [.int .i64 (((m : Nat) : Int)), .slice A2 ((compl m es (k + 1)).length) (c2)] 25 by rw [compl_succ (by omega), if_pos c30, List.append_nil]) (.head) (.consE (show row 65 2 A2 ((compl m es k).length) (c2) (cells fE (compl m es k)) = row 65 2 A2 ((compl m es (k + 1)).length) (c2) (cells fE (compl m es (k + 1))) by rw [compl_succ (by omega), if_pos c30, List.append_nil]) (.head) (.cons (.head) (.cons (.head) (.nil)))))))
    ·
      refine gk (.cons (.head) (.cons (.head) (.cons (.head) (.cons (.head) (.cons (.head) (.nil)))))) ?_
      refine wg_takep (i := 12) rfl (ov_not rfl) rfl rfl rfl (by kernel_rfl) (by kernel_rfl) (by kernel_rfl) rfl ?_
      refine wg_done (by kernel_rfl) ?_
      refine ce_then ?_
      refine cw_true rfl ?_
      refine cw_draw mixO [9] (.cons (.head) (.cons (.head) (.cons (.tail .head) (.cons (.tail .head) (.nil))))) rfl ?_
      refine wg_take (i := 0) rfl (ov_fieldAddr fI25_1 some_lit rfl) rfl rfl rfl (by kernel_rfl) (by kernel_rfl) (by kernel_rfl) (by kernel_rfl) ?_
      refine wg_take (i := 1) rfl (ov_load tI23 (holds_blk (List.Mem.tail _ (List.Mem.head _))) rfl rfl) rfl rfl rfl (by kernel_rfl) (by kernel_rfl) (by kernel_rfl) (by kernel_rfl) ?_
      refine wg_takep (i := 2) rfl (ov_move rfl) rfl rfl rfl (by kernel_rfl) (by kernel_rfl) (by kernel_rfl) rfl ?_
      refine wg_takep (i := 3) rfl (ov_move rfl) rfl rfl rfl (by kernel_rfl) (by kernel_rfl) (by kernel_rfl) rfl ?_
      refine wg_take (i := 4) rfl (ov_index (k := k) (c := c2_12) sI23 tI65 rfl rfl (some_holds (q := k * 2) (holds_row (List.Mem.head _)) (by rw [cells_length fE_len]; have hlt : k < (prs m).length := (by first | omega | (simp; omega)); omega)) (show k < (prs m).length from (by first | omega | (simp; omega)))) rfl rfl rfl (by kernel_rfl) (by kernel_rfl) (by kernel_rfl) (by kernel_rfl) ?_
      refine wg_take (i := 5) rfl (ov_loadAgg (vs := [.int .i64 (((prs m).getD k (0, 0)).1), .int .i64 (((prs m).getD k (0, 0)).2)]) tI65 (holds_row (List.Mem.head _)) rfl (some_holds (q := k * 2) (holds_row (List.Mem.head _)) (by rw [cells_length fE_len]; have hlt : k < (prs m).length := (by first | omega | (simp; omega)); omega)) (cells_elem fE_len (0, 0) (show k < (prs m).length from (by first | omega | (simp; omega)))) rfl) rfl rfl rfl (by kernel_rfl) (by kernel_rfl) (by kernel_rfl) (by kernel_rfl) ?_
      refine wg_one (i := 6) (by kernel_rfl) ?_
      refine go_r rfl rfl rfl rfl (or_buildSlice (e := 65) (size := 2) (is := [0]) (vs := [.agg #[.int .i64 (((prs m).getD k (0, 0)).1), .int .i64 (((prs m).getD k (0, 0)).2)]]) (cs := cells fE ([(((prs m).getD k (0, 0)).1, ((prs m).getD k (0, 0)).2)])) rfl rfl rfl (by decide) (fun _ => by kernel_rfl)) (kt1 rfl (fun g38 => ?_))
      refine gk (.cons (.tail .head) (.cons (.tail .head) (.cons (.tail (.tail .head)) (.cons (.tail (.tail .head)) (.nil))))) ?_
      refine wg_one (i := 7) (by kernel_rfl) ?_
      refine go_r rfl rfl rfl rfl (or_append (c2 := 1) sI23 tI65 rfl (by decide) rfl rfl (.tail (.tail (.tail .head))) (holds_row (List.Mem.head _)) (by rw [cells_length fE_len]; try simp) (one_cells fE_one _) cells_append (by omega) (by omega)) (kt2p rfl (fun A39 c39 h39 => ?_))
      refine gk (.cons (.tail (.tail .head)) (.cons (.tail (.tail .head)) (.cons (.tail (.tail .head)) (.cons (.tail (.tail .head)) (.nil))))) ?_
      refine wg_take (i := 8) rfl (ov_fieldAddr fI25_1 some_lit rfl) rfl rfl rfl (by kernel_rfl) (by kernel_rfl) (by kernel_rfl) (by kernel_rfl) ?_
      refine wg_one (i := 9) (by kernel_rfl) ?_
      refine go_late0 rfl rfl rfl rfl (or_store_blk (vs := [.slice A39 (((compl m es k).length) + 1) (c39)]) (cs' := [.int .i64 (((m : Nat) : Int)), .slice A39 (((compl m es k).length) + 1) (c39)]) (.tail (.tail (.tail .head))) tI23 rfl rfl rfl rfl (Nat.le_of_ble_eq_true rfl) rfl) (kn0 ?_)
      refine wa_done (by kernel_rfl) ?_
      refine ce_block ?_
      refine ce_then ?_
      refine cw_region ?_
      refine wl_v (ov_move rfl) rfl rfl rfl ?_
      refine wl_v (ov_add (r := ((k + 1 : Nat) : Int)) rfl rfl rfl (by omega)) rfl rfl rfl ?_
      refine wl_v (ov_assign rfl) rfl rfl rfl ?_
      refine wl_nil ?_
      exact fun ac_ w_ hs_ => hR0 (k + 1) A39 c39 ⟨by omega, by rw [compl_succ (by omega), if_neg c30, List.length_append]; exact h39⟩ (by omega) ac_ w_ (hs_.weaken (.cons rfl (.cons rfl (.cons rfl (.cons rfl (.cons rfl (.nil)))))) (.cons (.tail (.tail (.tail .head))) (.consE (show blk g3 [.int .i64 (((m : Nat) : Int)), .slice A39 (((compl m es k).length) + 1) (c39)] 25 = blk g3 [.int .i64 (((m : Nat) : Int)), .slice A39 ((compl m es (k + 1)).length) (c39)] 25 by rw [compl_succ (by omega), if_neg c30, List.length_append]; rfl) (.head) (.consE (show row 65 2 A39 (((compl m es k).length) + 1) (c39) (cells fE ((compl m es k) ++ ([(((prs m).getD k (0, 0)).1, ((prs m).getD k (0, 0)).2)]))) = row 65 2 A39 ((compl m es (k + 1)).length) (c39) (cells fE (compl m es (k + 1))) by rw [compl_succ (by omega), if_neg c30, List.length_append]; rfl) (.head) (.cons (.tail .head) (.cons (.tail .head) (.nil)))))))
  ·
    refine wl_nil ?_
    refine ce_then ?_
    refine cw_false rfl ?_
    refine cw_exit ?_
    refine ce_then_exit ?_
    refine ce_then_exit ?_
    refine ce_hit ?_
    refine ce_then ?_
    refine cw_seq ?_
    refine cw_region ?_
    refine wl_v (ov_loadAgg (vs := [.int .i64 (((m : Nat) : Int)), .slice A2 ((compl m es k).length) (c2)]) tI25 (holds_blk (List.Mem.tail _ (List.Mem.head _))) rfl some_lit rfl rfl) rfl rfl rfl ?_
    refine wl_r0 (or_store_blk (vs := [.int .i64 (((m : Nat) : Int)), .slice A2 ((compl m es k).length) (c2)]) (cs' := [.int .i64 (((m : Nat) : Int)), .slice A2 ((compl m es k).length) (c2)]) (.tail (.tail (.tail .head))) tI25 rfl rfl rfl rfl (Nat.le_of_ble_eq_true rfl) rfl) rfl rfl (kn0 ?_)
    refine wl_nil ?_
    refine ce_then ?_
    refine cw_ret ?_
    refine ce_results (v := .agg #[.int .i64 (((m : Nat) : Int)), .slice A2 ((compl m es k).length) (c2)]) (res1 rfl (rv_c rfl tI25 rfl (List.Mem.head _))) (fun w' hw => ?_)
    exact ⟨A2, c2, (by rw [show (prs m).length = k from by omega]; exact hk2), (by rw [show (prs m).length = k from by omega]), ((.consE (show row 65 2 A2 ((compl m es k).length) (c2) (cells fE (compl m es k)) = row 65 2 A2 ((compl m es (prs m).length).length) (c2) (cells fE (compl m es (prs m).length)) by rw [show (prs m).length = k from by omega]) (.tail (.tail (.tail .head))) (.nil) : Keep _ _).ss hw).to_new⟩
set_option maxRecDepth 100000 in
theorem degreesS_c (w : World) (m : Nat) (A : Option Addr) (n : Nat) (c : Nat) (es : List (Int × Int)) (hA : At w A (cells fE es)) (eA : es.length = n) (lA : n ≤ c) (hs : es.length ≤ 1000) (hm : m ≤ 10) (he : ∀ e ∈ es, 0 ≤ e.1 ∧ e.1 < e.2 ∧ e.2 < (m : Int)) : Calls Try.prog 83 #[.agg #[.int .i64 (((m : Nat) : Int)), .slice A (n) (c)]] w (Ret fun rv w' => ∃ g, (True) ∧ rv = .slice (some ⟨g, 0, none⟩) (m) (m) ∧ New w w' [row 3 1 (some ⟨g, 0, none⟩) (m) (m) (cells fI (degs m es))]) := by
  have oA := hA.atB
  subst eA
  refine fn_enter (args := [.agg #[.int .i64 (((m : Nat) : Int)), .slice A (es.length) (c)]]) Try.func83 rfl Try.ntmps83 rfl (SS.start w) ?_
  refine cw_seq ?_
  refine cw_region ?_
  refine wl_r (or_box rfl rfl) rfl rfl (kt1 rfl (fun g1 => ?_))
  refine wl_v (ov_assign rfl) rfl rfl rfl ?_
  refine wl_nil ?_
  refine ce_then ?_
  refine cw_seq ?_
  refine cw_region ?_
  refine wl_v (ov_fieldAddr fI25_0 some_lit rfl) rfl rfl rfl ?_
  refine wl_v (ov_load tI3 (holds_blk (List.Mem.head _)) rfl rfl) rfl rfl rfl ?_
  refine wl_r (or_makeSlice (m := m) sI38 tI3 rfl rfl (made_fI _) (by omega) (show m ≤ maxLen by simp only [maxLen]; omega)) rfl rfl (kt1 rfl (fun g7 => ?_))
  refine wl_v (ov_assign rfl) rfl rfl rfl ?_
  refine wl_nil ?_
  refine ce_then ?_
  refine cw_seq ?_
  refine cw_seq ?_
  refine cw_region ?_
  refine wl_v (ov_assign rfl) rfl rfl rfl ?_
  refine wl_nil ?_
  refine ce_then ?_
  refine cw_block ?_
  refine cw_loop1 (fun (k : Nat) => [(1, elp (some ⟨g1, 0, none⟩) (0)), (2, .slice none (0) (0)), (3, .slice (some ⟨g7, 0, none⟩) (m) (m)), (4, .int .i64 (((k : Nat) : Int)))]) (fun (k : Nat) => [row 3 1 (some ⟨g7, 0, none⟩) (m) (m) (cells fI (degsTo m es k)), blk g1 [.int .i64 (((m : Nat) : Int)), .slice A (es.length) (c)] 25]) (fun (k : Nat) => k ≤ es.length) (fun (k : Nat) => es.length - k) 0 (by omega) (.cons rfl (.cons rfl (.cons rfl (.cons (congrArg (fun z => some (Value.int .i64 z)) (show 0 = ((0 : Nat) : Int) by first | omega | rfl | (simp; done))) (.nil))))) (.consE (show row 3 1 (some ⟨g7, 0, none⟩) (m) (m) (cells fI (List.replicate m 0)) = row 3 1 (some ⟨g7, 0, none⟩) (m) (m) (cells fI (degsTo m es 0)) by rfl) (.head) (.cons (.head) (.nil))) ?_
  intro R0 k hk hR0
  have hdl := degsTo_length m es k
  refine cw_seq ?_
  refine cw_seq ?_
  refine cw_region ?_
  refine wl_v (ov_move rfl) rfl rfl rfl ?_
  refine wl_v (ov_fieldAddr fI25_1 some_lit rfl) rfl rfl rfl ?_
  refine wl_v (ov_load tI23 (holds_blk (List.Mem.tail _ (List.Mem.head _))) rfl rfl) rfl rfl rfl ?_
  refine wl_v (ov_len (sliceI_spec sI23) rfl) rfl rfl rfl ?_
  refine wl_if (ov_lss rfl rfl) rfl rfl rfl (fun c12 => ?_) (fun c12 => ?_)
  ·
    refine wl_nil ?_
    refine ce_then ?_
    refine cw_true rfl ?_
    refine cw_skip ?_
    refine ce_then ?_
    refine cw_seq ?_
    refine cw_block ?_
    refine cw_seq ?_
    refine cw_draw mixO [18] (.cons (.head) (.cons (.head) (.nil))) rfl ?_
    refine wg_takep (i := 0) rfl (ov_move rfl) rfl rfl rfl (by kernel_rfl) (by kernel_rfl) (by kernel_rfl) rfl ?_
    refine wg_take (i := 1) rfl (ov_fieldAddr fI25_1 some_lit rfl) rfl rfl rfl (by kernel_rfl) (by kernel_rfl) (by kernel_rfl) (by kernel_rfl) ?_
    refine wg_take (i := 2) rfl (ov_load tI23 (holds_blk (List.Mem.tail _ (List.Mem.head _))) rfl rfl) rfl rfl rfl (by kernel_rfl) (by kernel_rfl) (by kernel_rfl) (by kernel_rfl) ?_
    refine wg_takep (i := 3) rfl (ov_move rfl) rfl rfl rfl (by kernel_rfl) (by kernel_rfl) (by kernel_rfl) rfl ?_
    refine wg_take (i := 4) rfl (ov_index (k := k) (c := c) sI23 tI65 rfl rfl (some_holds (q := k * 2) (holds_old oA) (by rw [cells_length fE_len]; have hlt : k < es.length := (by omega); omega)) (show k < es.length from (by omega))) rfl rfl rfl (by kernel_rfl) (by kernel_rfl) (by kernel_rfl) (by kernel_rfl) ?_
    refine wg_take (i := 5) rfl (ov_fieldAddr fI65_0 (some_holds (q := k * 2) (holds_old oA) (by rw [cells_length fE_len]; have hlt : k < es.length := (by omega); omega)) rfl) rfl rfl rfl (by kernel_rfl) (by kernel_rfl) (by kernel_rfl) (by kernel_rfl) ?_
    refine wg_take (i := 6) rfl (ov_load tI3 (holds_old oA) rfl (get_fE0 (show k < es.length from (by omega)))) rfl rfl rfl (by kernel_rfl) (by kernel_rfl) (by kernel_rfl) (by kernel_rfl) ?_
    have hek := he _ (getD_mem (xs := es) (k := k) (0, 0) (by omega))
    have hb1 := degsTo_bd he k (es.getD k (0, 0)).1.toNat
    have hb2 := degsTo_bd he k (es.getD k (0, 0)).2.toNat
    refine wg_takep (i := 7) rfl (ov_move rfl) rfl rfl rfl (by kernel_rfl) (by kernel_rfl) (by kernel_rfl) rfl ?_
    refine wg_take (i := 8) rfl (ov_fieldAddr fI25_1 some_lit rfl) rfl rfl rfl (by kernel_rfl) (by kernel_rfl) (by kernel_rfl) (by kernel_rfl) ?_
    refine wg_take (i := 9) rfl (ov_load tI23 (holds_blk (List.Mem.tail _ (List.Mem.head _))) rfl rfl) rfl rfl rfl (by kernel_rfl) (by kernel_rfl) (by kernel_rfl) (by kernel_rfl) ?_
    refine wg_takep (i := 10) rfl (ov_move rfl) rfl rfl rfl (by kernel_rfl) (by kernel_rfl) (by kernel_rfl) rfl ?_
    refine wg_take (i := 11) rfl (ov_index (k := k) (c := c) sI23 tI65 rfl rfl (some_holds (q := k * 2) (holds_old oA) (by rw [cells_length fE_len]; have hlt : k < es.length := (by omega); omega)) (show k < es.length from (by omega))) rfl rfl rfl (by kernel_rfl) (by kernel_rfl) (by kernel_rfl) (by kernel_rfl) ?_
    refine wg_take (i := 12) rfl (ov_fieldAddr fI65_0 (some_holds (q := k * 2) (holds_old oA) (by rw [cells_length fE_len]; have hlt : k < es.length := (by omega); omega)) rfl) rfl rfl rfl (by kernel_rfl) (by kernel_rfl) (by kernel_rfl) (by kernel_rfl) ?_
    refine wg_take (i := 13) rfl (ov_load tI3 (holds_old oA) rfl (get_fE0 (show k < es.length from (by omega)))) rfl rfl rfl (by kernel_rfl) (by kernel_rfl) (by kernel_rfl) (by kernel_rfl) ?_
    refine wg_take (i := 14) rfl (ov_indexg sI38 tI3 rfl rfl (some_holds (q := (((es.getD k (0, 0)).1).toNat) * 1) (holds_row (List.Mem.head _)) (by rw [cells_length fI_len]; have hlt : ((es.getD k (0, 0)).1).toNat < (degsTo m es k).length := (by omega); omega)) (by omega) (show ((es.getD k (0, 0)).1).toNat < m from (by omega))) rfl rfl rfl (by kernel_rfl) (by kernel_rfl) (by kernel_rfl) (by kernel_rfl) ?_
    refine wg_take (i := 15) rfl (ov_load tI3 (holds_row (List.Mem.head _)) rfl (get_fI (show ((es.getD k (0, 0)).1).toNat < (degsTo m es k).length from (by omega)))) rfl rfl rfl (by kernel_rfl) (by kernel_rfl) (by kernel_rfl) (by kernel_rfl) ?_
    refine wg_takep (i := 16) rfl (ov_add (r := ((degsTo m es k).getD (((es.getD k (0, 0)).1).toNat) 0) + 1) rfl rfl rfl (by omega)) rfl rfl rfl (by kernel_rfl) (by kernel_rfl) (by kernel_rfl) rfl ?_
    refine wg_take (i := 17) rfl (ov_indexg sI38 tI3 rfl rfl (some_holds (q := (((es.getD k (0, 0)).1).toNat) * 1) (holds_row (List.Mem.head _)) (by rw [cells_length fI_len]; have hlt : ((es.getD k (0, 0)).1).toNat < (degsTo m es k).length := (by omega); omega)) (by omega) (show ((es.getD k (0, 0)).1).toNat < m from (by omega))) rfl rfl rfl (by kernel_rfl) (by kernel_rfl) (by kernel_rfl) (by kernel_rfl) ?_
    refine wg_one (i := 18) (by kernel_rfl) ?_
    refine go_late0 rfl rfl rfl rfl (or_store_row (vs := [.int .i64 (((degsTo m es k).getD (((es.getD k (0, 0)).1).toNat) 0) + 1)]) (cs' := cells fI ((degsTo m es k).set (((es.getD k (0, 0)).1).toNat) (((degsTo m es k).getD (((es.getD k (0, 0)).1).toNat) 0) + 1))) (.head) tI3 rfl rfl rfl rfl (by rw [cells_length fI_len]; have hlt := (show ((es.getD k (0, 0)).1).toNat < (degsTo m es k).length from (by omega)); simp only [List.length_cons, List.length_nil]; omega) (by simp) (cells_splice fI_len (show ((es.getD k (0, 0)).1).toNat < (degsTo m es k).length from (by omega)) (((degsTo m es k).getD (((es.getD k (0, 0)).1).toNat) 0) + 1))) (kn0 ?_)
    refine wa_done (by kernel_rfl) ?_
    refine ce_then ?_
    refine cw_draw mixO [18] (.cons (.head) (.cons (.head) (.nil))) rfl ?_
    refine wg_takep (i := 0) rfl (ov_move rfl) rfl rfl rfl (by kernel_rfl) (by kernel_rfl) (by kernel_rfl) rfl ?_
    refine wg_take (i := 1) rfl (ov_fieldAddr fI25_1 some_lit rfl) rfl rfl rfl (by kernel_rfl) (by kernel_rfl) (by kernel_rfl) (by kernel_rfl) ?_
    refine wg_take (i := 2) rfl (ov_load tI23 (holds_blk (List.Mem.tail _ (List.Mem.head _))) rfl rfl) rfl rfl rfl (by kernel_rfl) (by kernel_rfl) (by kernel_rfl) (by kernel_rfl) ?_
    refine wg_takep (i := 3) rfl (ov_move rfl) rfl rfl rfl (by kernel_rfl) (by kernel_rfl) (by kernel_rfl) rfl ?_
    refine wg_take (i := 4) rfl (ov_index (k := k) (c := c) sI23 tI65 rfl rfl (some_holds (q := k * 2) (holds_old oA) (by rw [cells_length fE_len]; have hlt : k < es.length := (by omega); omega)) (show k < es.length from (by omega))) rfl rfl rfl (by kernel_rfl) (by kernel_rfl) (by kernel_rfl) (by kernel_rfl) ?_
    refine wg_take (i := 5) rfl (ov_fieldAddr fI65_1 (some_holds (q := k * 2) (holds_old oA) (by rw [cells_length fE_len]; have hlt : k < es.length := (by omega); omega)) rfl) rfl rfl rfl (by kernel_rfl) (by kernel_rfl) (by kernel_rfl) (by kernel_rfl) ?_
    refine wg_take (i := 6) rfl (ov_load tI3 (holds_old oA) rfl (get_fE1 (show k < es.length from (by omega)))) rfl rfl rfl (by kernel_rfl) (by kernel_rfl) (by kernel_rfl) (by kernel_rfl) ?_
    refine wg_takep (i := 7) rfl (ov_move rfl) rfl rfl rfl (by kernel_rfl) (by kernel_rfl) (by kernel_rfl) rfl ?_
    refine wg_take (i := 8) rfl (ov_fieldAddr fI25_1 some_lit rfl) rfl rfl rfl (by kernel_rfl) (by kernel_rfl) (by kernel_rfl) (by kernel_rfl) ?_
    refine wg_take (i := 9) rfl (ov_load tI23 (holds_blk (List.Mem.tail _ (List.Mem.head _))) rfl rfl) rfl rfl rfl (by kernel_rfl) (by kernel_rfl) (by kernel_rfl) (by kernel_rfl) ?_
    refine wg_takep (i := 10) rfl (ov_move rfl) rfl rfl rfl (by kernel_rfl) (by kernel_rfl) (by kernel_rfl) rfl ?_
    refine wg_take (i := 11) rfl (ov_index (k := k) (c := c) sI23 tI65 rfl rfl (some_holds (q := k * 2) (holds_old oA) (by rw [cells_length fE_len]; have hlt : k < es.length := (by omega); omega)) (show k < es.length from (by omega))) rfl rfl rfl (by kernel_rfl) (by kernel_rfl) (by kernel_rfl) (by kernel_rfl) ?_
    refine wg_take (i := 12) rfl (ov_fieldAddr fI65_1 (some_holds (q := k * 2) (holds_old oA) (by rw [cells_length fE_len]; have hlt : k < es.length := (by omega); omega)) rfl) rfl rfl rfl (by kernel_rfl) (by kernel_rfl) (by kernel_rfl) (by kernel_rfl) ?_
    refine wg_take (i := 13) rfl (ov_load tI3 (holds_old oA) rfl (get_fE1 (show k < es.length from (by omega)))) rfl rfl rfl (by kernel_rfl) (by kernel_rfl) (by kernel_rfl) (by kernel_rfl) ?_
    refine wg_take (i := 14) rfl (ov_indexg sI38 tI3 rfl rfl (some_holds (q := (((es.getD k (0, 0)).2).toNat) * 1) (holds_row (List.Mem.head _)) (by rw [cells_length fI_len]; have hlt : ((es.getD k (0, 0)).2).toNat < ((degsTo m es k).set (((es.getD k (0, 0)).1).toNat) (((degsTo m es k).getD (((es.getD k (0, 0)).1).toNat) 0) + 1)).length := (by first | omega | (rw [List.length_set]; omega)); omega)) (by omega) (show ((es.getD k (0, 0)).2).toNat < m from (by first | omega | (rw [List.length_set]; omega)))) rfl rfl rfl (by kernel_rfl) (by kernel_rfl) (by kernel_rfl) (by kernel_rfl) ?_
    refine wg_take (i := 15) rfl (ov_load tI3 (holds_row (List.Mem.head _)) rfl (get_fI (show ((es.getD k (0, 0)).2).toNat < ((degsTo m es k).set (((es.getD k (0, 0)).1).toNat) (((degsTo m es k).getD (((es.getD k (0, 0)).1).toNat) 0) + 1)).length from (by first | omega | (rw [List.length_set]; omega))))) rfl rfl rfl (by kernel_rfl) (by kernel_rfl) (by kernel_rfl) (by kernel_rfl) ?_
    have hb3 : (((degsTo m es k).set (((es.getD k (0, 0)).1).toNat) (((degsTo m es k).getD (((es.getD k (0, 0)).1).toNat) 0) + 1)).getD (((es.getD k (0, 0)).2).toNat) 0) = (degsTo m es k).getD (es.getD k (0, 0)).2.toNat 0 := by rw [getD_setI (by omega), if_neg (by omega)]
    refine wg_takep (i := 16) rfl (ov_add (r := (((degsTo m es k).set (((es.getD k (0, 0)).1).toNat) (((degsTo m es k).getD (((es.getD k (0, 0)).1).toNat) 0) + 1)).getD (((es.getD k (0, 0)).2).toNat) 0) + 1) rfl rfl rfl (by omega)) rfl rfl rfl (by kernel_rfl) (by kernel_rfl) (by kernel_rfl) rfl ?_
    refine wg_take (i := 17) rfl (ov_indexg sI38 tI3 rfl rfl (some_holds (q := (((es.getD k (0, 0)).2).toNat) * 1) (holds_row (List.Mem.head _)) (by rw [cells_length fI_len]; have hlt : ((es.getD k (0, 0)).2).toNat < ((degsTo m es k).set (((es.getD k (0, 0)).1).toNat) (((degsTo m es k).getD (((es.getD k (0, 0)).1).toNat) 0) + 1)).length := (by first | omega | (rw [List.length_set]; omega)); omega)) (by omega) (show ((es.getD k (0, 0)).2).toNat < m from (by first | omega | (rw [List.length_set]; omega)))) rfl rfl rfl (by kernel_rfl) (by kernel_rfl) (by kernel_rfl) (by kernel_rfl) ?_
    refine wg_one (i := 18) (by kernel_rfl) ?_
    refine go_late0 rfl rfl rfl rfl (or_store_row (vs := [.int .i64 ((((degsTo m es k).set (((es.getD k (0, 0)).1).toNat) (((degsTo m es k).getD (((es.getD k (0, 0)).1).toNat) 0) + 1)).getD (((es.getD k (0, 0)).2).toNat) 0) + 1)]) (cs' := cells fI (((degsTo m es k).set (((es.getD k (0, 0)).1).toNat) (((degsTo m es k).getD (((es.getD k (0, 0)).1).toNat) 0) + 1)).set (((es.getD k (0, 0)).2).toNat) ((((degsTo m es k).set (((es.getD k (0, 0)).1).toNat) (((degsTo m es k).getD (((es.getD k (0, 0)).1).toNat) 0) + 1)).getD (((es.getD k (0, 0)).2).toNat) 0) + 1))) (.head) tI3 rfl rfl rfl rfl (by rw [cells_length fI_len]; have hlt := (show ((es.getD k (0, 0)).2).toNat < ((degsTo m es k).set (((es.getD k (0, 0)).1).toNat) (((degsTo m es k).getD (((es.getD k (0, 0)).1).toNat) 0) + 1)).length from (by first | omega | (rw [List.length_set]; omega))); simp only [List.length_cons, List.length_nil]; omega) (by simp) (cells_splice fI_len (show ((es.getD k (0, 0)).2).toNat < ((degsTo m es k).set (((es.getD k (0, 0)).1).toNat) (((degsTo m es k).getD (((es.getD k (0, 0)).1).toNat) 0) + 1)).length from (by first | omega | (rw [List.length_set]; omega))) ((((degsTo m es k).set (((es.getD k (0, 0)).1).toNat) (((degsTo m es k).getD (((es.getD k (0, 0)).1).toNat) 0) + 1)).getD (((es.getD k (0, 0)).2).toNat) 0) + 1))) (kn0 ?_)
    refine wa_done (by kernel_rfl) ?_
    refine ce_block ?_
    refine ce_then ?_
    refine cw_region ?_
    refine wl_v (ov_move rfl) rfl rfl rfl ?_
    refine wl_v (ov_add (r := ((k + 1 : Nat) : Int)) rfl rfl rfl (by omega)) rfl rfl rfl ?_
    refine wl_v (ov_assign rfl) rfl rfl rfl ?_
    refine wl_nil ?_
    exact fun ac_ w_ hs_ => hR0 (k + 1) (by omega) (by omega) ac_ w_ (hs_.weaken (.cons rfl (.cons rfl (.cons rfl (.cons rfl (.nil))))) (.consE (show row 3 1 (some ⟨g7, 0, none⟩) (m) (m) (cells fI (((degsTo m es k).set (((es.getD k (0, 0)).1).toNat) (((degsTo m es k).getD (((es.getD k (0, 0)).1).toNat) 0) + 1)).set (((es.getD k (0, 0)).2).toNat) ((((degsTo m es k).set (((es.getD k (0, 0)).1).toNat) (((degsTo m es k).getD (((es.getD k (0, 0)).1).toNat) 0) + 1)).getD (((es.getD k (0, 0)).2).toNat) 0) + 1))) = row 3 1 (some ⟨g7, 0, none⟩) (m) (m) (cells fI (degsTo m es (k + 1))) by rw [degsTo_succ (by omega)] <;> rfl) (.head) (.cons (.head) (.nil))))
  ·
    refine wl_nil ?_
    refine ce_then ?_
    refine cw_false rfl ?_
    refine cw_exit ?_
    refine ce_then_exit ?_
    refine ce_then_exit ?_
    refine ce_hit ?_
    refine ce_then ?_
    refine cw_seq ?_
    refine cw_region ?_
    refine wl_v (ov_move rfl) rfl rfl rfl ?_
    refine wl_v (ov_assign rfl) rfl rfl rfl ?_
    refine wl_nil ?_
    refine ce_then ?_
    refine cw_ret ?_
    refine ce_results (v := .slice (some ⟨g7, 0, none⟩) (m) (m)) (res1 rfl (rv_t rfl)) (fun w' hw => ?_)
    exact ⟨g7, trivial, rfl, ((.consE (show row 3 1 (some ⟨g7, 0, none⟩) (m) (m) (cells fI (degsTo m es k)) = row 3 1 (some ⟨g7, 0, none⟩) (m) (m) (cells fI (degs m es)) by rw [degs, show es.length = k from by omega]) (.head) (.nil) : Keep _ _).ss hw).to_new⟩
set_option maxRecDepth 100000 in
theorem aGraph_c (w w0 : World) (Bd : Nat) (F : List Ent) (m : Nat) (g : Nat) (Ar : Option Addr) (nr : Nat) (cr : Nat) (bs : List Nat) (p : Nat) (hAr : Holds (SS w0 Bd F) Ar (cells fY bs)) (eAr : bs.length = nr) (lAr : nr ≤ cr) (hy : nr ≤ 2000 ∧ (∀ x ∈ bs, x < 256) ∧ p ≤ 90000) (hm : m ≤ 7) (hss : SS w0 Bd ((blk g [.slice Ar (nr) (cr), .int .i64 (((p : Nat) : Int))] 100) :: F) w) : Calls Try.prog 104 #[elp (some ⟨g, 0, none⟩) (0), .int .i64 (((m : Nat) : Int))] w (Ret fun rv w' => ∃ A2 c2 es q, ((es.length ≤ c2 ∧ es.Sublist (prs m)) ∧ p ≤ q ∧ q ≤ p + 200) ∧ rv = .agg #[.int .i64 (((m : Nat) : Int)), .slice A2 (es.length) (c2)] ∧ SS w0 Bd ((row 65 2 A2 (es.length) (c2) (cells fE es)) :: (blk g [.slice Ar (nr) (cr), .int .i64 (((q : Nat) : Int))] 100) :: F) w') := by
  have hpl := prs_len (n := m) (by omega)
  refine fn_enter (args := [elp (some ⟨g, 0, none⟩) (0), .int .i64 (((m : Nat) : Int))]) Try.func104 rfl Try.ntmps104 rfl hss ?_
  refine cw_seq ?_
  refine cw_region ?_
  refine wl_r (or_alloc tI25 rfl) rfl rfl (kt1 rfl (fun g4 => ?_))
  refine wl_nil ?_
  refine ce_then ?_
  refine cw_seq ?_
  refine cw_region ?_
  refine wl_v (ov_move rfl) rfl rfl rfl ?_
  refine wl_r (or_buildSlice (e := 65) (size := 2) (is := []) (vs := []) (cs := cells fE ([])) rfl rfl rfl (by decide) (fun _ => by kernel_rfl)) rfl rfl (kt1 rfl (fun g10 => ?_))
  refine wl_v (ov_build (is := [0, 1]) (vs := [.int .i64 (((m : Nat) : Int)), .slice (some ⟨g10, 0, none⟩) (0) (0)]) (v := .agg #[.int .i64 (((m : Nat) : Int)), .slice (some ⟨g10, 0, none⟩) (0) (0)]) rfl rfl (fun _ => by kernel_rfl)) rfl rfl rfl ?_
  refine wl_r (or_alloc tI25 rfl) rfl rfl (kt1 rfl (fun g5 => ?_))
  refine wl_r0 (or_store_blk (vs := [.int .i64 (((m : Nat) : Int)), .slice (some ⟨g10, 0, none⟩) (0) (0)]) (cs' := [.int .i64 (((m : Nat) : Int)), .slice (some ⟨g10, 0, none⟩) (0) (0)]) (.head) tI25 rfl rfl rfl rfl (Nat.le_of_ble_eq_true rfl) rfl) rfl rfl (kn0 ?_)
  refine wl_nil ?_
  refine ce_then ?_
  refine cw_seq ?_
  refine cw_region ?_
  refine wl_v (ov_move rfl) rfl rfl rfl ?_
  refine wl_r (or_call (fv := []) (vs := [.int .i64 (((m : Nat) : Int))]) (cs := []) en120 rfl rfl (call_x2 (fun w hw => pairsS_c w m (by first | assumption | omega | (simp; omega))))) rfl rfl (kt2p rfl (fun A2_13 c2_13 h_13 => ?_))
  refine wl_v (ov_assign rfl) rfl rfl rfl ?_
  refine wl_nil ?_
  refine ce_then ?_
  refine cw_seq ?_
  refine cw_region ?_
  refine wl_v (ov_move rfl) rfl rfl rfl ?_
  refine wl_r (or_call (fv := []) (vs := [elp (some ⟨g, 0, none⟩) (0), .int .i64 (3)]) (cs := []) en76 rfl rfl (call_o (.cons (.tail (.tail (.tail (.tail .head)))) (.cons (.head) (.cons (.head) (.cons (.head) (.cons (.head) (.refl)))))) (fun w hw => pick_c w _ _ _ 3 g Ar nr cr bs p (Holds.keepF hAr ((.drop (.drop (.drop (.drop .refl)))))) (by first | rfl | assumption | (simp; done) | (simp; omega)) lAr ⟨hy.1, hy.2.1, by omega⟩ (by first | assumption | omega | (simp; omega)) hw))) rfl rfl (kt1p rfl (fun v_15 h_15 => ?_))
  refine wl_v (ov_add (r := 2 + v_15) rfl rfl rfl (by omega)) rfl rfl rfl ?_
  refine wl_v (ov_assign rfl) rfl rfl rfl ?_
  refine wl_nil ?_
  refine ce_then ?_
  refine cw_seq ?_
  refine cw_seq ?_
  refine cw_region ?_
  refine wl_v (ov_assign rfl) rfl rfl rfl ?_
  refine wl_nil ?_
  refine ce_then ?_
  refine cw_block ?_
  refine cw_loop5 (fun (k : Nat) (A3 : Option Addr) (c3 : Nat) (es : List Ed) (q : Nat) => [(0, elp (some ⟨g, 0, none⟩) (0)), (4, elp (some ⟨g4, 0, none⟩) (0)), (5, elp (some ⟨g5, 0, none⟩) (0)), (6, .slice A2_13 ((prs m).length) (c2_13)), (7, .int .i64 (2 + v_15)), (8, .int .i64 (((k : Nat) : Int)))]) (fun (k : Nat) (A3 : Option Addr) (c3 : Nat) (es : List Ed) (q : Nat) => (blk g [.slice Ar (nr) (cr), .int .i64 (((q : Nat) : Int))] 100) :: (row 65 2 A2_13 ((prs m).length) (c2_13) (cells fE (prs m))) :: (blk g5 [.int .i64 (((m : Nat) : Int)), .slice A3 (es.length) (c3)] 25) :: (row 65 2 A3 (es.length) (c3) (cells fE es)) :: (blk g4 [.int .i64 (0), .slice none (0) (0)] 25) :: F) (fun (k : Nat) (A3 : Option Addr) (c3 : Nat) (es : List Ed) (q : Nat) => k ≤ (prs m).length ∧ es.length ≤ c3 ∧ es.Sublist ((prs m).take k) ∧ p ≤ q ∧ q ≤ p + 1 + k) (fun (k : Nat) (A3 : Option Addr) (c3 : Nat) (es : List Ed) (q : Nat) => (prs m).length - k) 0 (some ⟨g10, 0, none⟩) 0 ([]) (p + 1) ⟨by omega, Nat.le_refl _, List.nil_sublist _, by omega, by omega⟩ (.cons rfl (.cons rfl (.cons rfl (.cons rfl (.cons rfl (.cons (congrArg (fun z => some (Value.int .i64 z)) (show 0 = ((0 : Nat) : Int) by first | omega | rfl | (simp; done))) (.nil))))))) (.cons (.head) (.cons (.head) (.cons (.head) (.cons (.head) (.cons (.head) (.refl)))))) ?_
  intro R0 k A3 c3 es q hk hR0
  obtain ⟨hk1, hk2, hk3, hk4, hk5⟩ := hk
  have hel := hk3.length_le
  rw [List.length_take] at hel
  refine cw_seq ?_
  refine cw_seq ?_
  refine cw_region ?_
  refine wl_v (ov_move rfl) rfl rfl rfl ?_
  refine wl_v (ov_move rfl) rfl rfl rfl ?_
  refine wl_v (ov_len (sliceI_spec sI23) rfl) rfl rfl rfl ?_
  refine wl_if (ov_lss rfl rfl) rfl rfl rfl (fun c20 => ?_) (fun c20 => ?_)
  ·
    refine wl_nil ?_
    refine ce_then ?_
    refine cw_true rfl ?_
    refine cw_skip ?_
    refine ce_then ?_
    refine cw_seq ?_
    refine cw_block ?_
    refine cw_seq ?_
    refine cw_region ?_
    refine wl_v (ov_move rfl) rfl rfl rfl ?_
    refine wl_v (ov_move rfl) rfl rfl rfl ?_
    refine wl_r (or_call (fv := []) (vs := [elp (some ⟨g, 0, none⟩) (0), .int .i64 (2 + v_15)]) (cs := []) en76 rfl rfl (call_o (.cons (.head) (.cons (.head) (.cons (.head) (.cons (.head) (.cons (.head) (.refl)))))) (fun w hw => pick_c w _ _ _ (2 + v_15) g Ar nr cr bs q (Holds.keepF hAr ((.drop (.drop (.drop (.drop .refl)))))) (by first | rfl | assumption | (simp; done) | (simp; omega)) lAr ⟨hy.1, hy.2.1, by omega⟩ (by first | assumption | omega | (simp; omega)) hw))) rfl rfl (kt1p rfl (fun v_25 h_25 => ?_))
    refine wl_if (ov_eql rfl rfl) rfl rfl rfl (fun c26 => ?_) (fun c26 => ?_)
    ·
      refine wl_nil ?_
      refine ce_then ?_
      refine cw_true rfl ?_
      refine cw_draw mixO [9] (.cons (.head) (.cons (.head) (.cons (.head) (.cons (.tail .head) ((.drop .refl)))))) rfl ?_
      refine wg_take (i := 0) rfl (ov_fieldAddr fI25_1 some_lit rfl) rfl rfl rfl (by kernel_rfl) (by kernel_rfl) (by kernel_rfl) (by kernel_rfl) ?_
      refine wg_take (i := 1) rfl (ov_load tI23 (holds_blk (List.Mem.tail _ (List.Mem.tail _ (List.Mem.head _)))) rfl rfl) rfl rfl rfl (by kernel_rfl) (by kernel_rfl) (by kernel_rfl) (by kernel_rfl) ?_
      refine wg_takep (i := 2) rfl (ov_move rfl) rfl rfl rfl (by kernel_rfl) (by kernel_rfl) (by kernel_rfl) rfl ?_
      refine wg_takep (i := 3) rfl (ov_move rfl) rfl rfl rfl (by kernel_rfl) (by kernel_rfl) (by kernel_rfl) rfl ?_
      refine wg_take (i := 4) rfl (ov_index (k := k) (c := c2_13) sI23 tI65 rfl rfl (some_holds (q := k * 2) (holds_row (List.Mem.tail _ (List.Mem.head _))) (by rw [cells_length fE_len]; have hlt : k < (prs m).length := (by first | omega | (simp; omega)); omega)) (show k < (prs m).length from (by first | omega | (simp; omega)))) rfl rfl rfl (by kernel_rfl) (by kernel_rfl) (by kernel_rfl) (by kernel_rfl) ?_
      refine wg_take (i := 5) rfl (ov_loadAgg (vs := [.int .i64 (((prs m).getD k (0, 0)).1), .int .i64 (((prs m).getD k (0, 0)).2)]) tI65 (holds_row (List.Mem.tail _ (List.Mem.head _))) rfl (some_holds (q := k * 2) (holds_row (List.Mem.tail _ (List.Mem.head _))) (by rw [cells_length fE_len]; have hlt : k < (prs m).length := (by first | omega | (simp; omega)); omega)) (cells_elem fE_len (0, 0) (show k < (prs m).length from (by first | omega | (simp; omega)))) rfl) rfl rfl rfl (by kernel_rfl) (by kernel_rfl) (by kernel_rfl) (by kernel_rfl) ?_
      refine wg_one (i := 6) (by kernel_rfl) ?_
      refine go_r rfl rfl rfl rfl (or_buildSlice (e := 65) (size := 2) (is := [0]) (vs := [.agg #[.int .i64 (((prs m).getD k (0, 0)).1), .int .i64 (((prs m).getD k (0, 0)).2)]]) (cs := cells fE ([(((prs m).getD k (0, 0)).1, ((prs m).getD k (0, 0)).2)])) rfl rfl rfl (by decide) (fun _ => by kernel_rfl)) (kt1 rfl (fun g33 => ?_))
      refine gk (.cons (.tail .head) (.cons (.tail .head) (.cons (.tail .head) (.cons (.tail (.tail .head)) ((.drop (.drop .refl))))))) ?_
      refine wg_one (i := 7) (by kernel_rfl) ?_
      refine go_r rfl rfl rfl rfl (or_append (c2 := 1) sI23 tI65 rfl (by decide) rfl rfl (.tail (.tail (.tail (.tail .head)))) (holds_row (List.Mem.head _)) (by rw [cells_length fE_len]; try simp) (one_cells fE_one _) cells_append (by omega) (by omega)) (kt2p rfl (fun A34 c34 h34 => ?_))
      refine gk (.cons (.tail (.tail .head)) (.cons (.tail (.tail .head)) (.cons (.tail (.tail .head)) (.cons (.tail (.tail .head)) ((.drop (.drop .refl))))))) ?_
      refine wg_take (i := 8) rfl (ov_fieldAddr fI25_1 some_lit rfl) rfl rfl rfl (by kernel_rfl) (by kernel_rfl) (by kernel_rfl) (by kernel_rfl) ?_
      refine wg_one (i := 9) (by kernel_rfl) ?_
      refine go_late0 rfl rfl rfl rfl (or_store_blk (vs := [.slice A34 (es.length + 1) (c34)]) (cs' := [.int .i64 (((m : Nat) : Int)), .slice A34 (es.length + 1) (c34)]) (.tail (.tail (.tail (.tail .head)))) tI23 rfl rfl rfl rfl (Nat.le_of_ble_eq_true rfl) rfl) (kn0 ?_)
      refine wa_done (by kernel_rfl) ?_
      refine ce_block ?_
      refine ce_then ?_
      refine cw_region ?_
      refine wl_v (ov_move rfl) rfl rfl rfl ?_
      refine wl_v (ov_add (r := ((k + 1 : Nat) : Int)) rfl rfl rfl (by omega)) rfl rfl rfl ?_
      refine wl_v (ov_assign rfl) rfl rfl rfl ?_
      refine wl_nil ?_
      exact fun ac_ w_ hs_ => hR0 (k + 1) A34 c34 (es ++ ([(((prs m).getD k (0, 0)).1, ((prs m).getD k (0, 0)).2)])) (q + 1) ⟨by omega, by rw [List.length_append]; exact h34, by rw [take_succ (0, 0) (by omega)]; exact hk3.append (List.Sublist.refl _), by omega, by omega⟩ (by omega) ac_ w_ (hs_.weaken (.cons rfl (.cons rfl (.cons rfl (.cons rfl (.cons rfl (.cons rfl (.nil))))))) (.cons (.tail (.tail (.tail .head))) (.cons (.tail (.tail (.tail .head))) (.consE (show blk g5 [.int .i64 (((m : Nat) : Int)), .slice A34 (es.length + 1) (c34)] 25 = blk g5 [.int .i64 (((m : Nat) : Int)), .slice A34 ((es ++ ([(((prs m).getD k (0, 0)).1, ((prs m).getD k (0, 0)).2)])).length) (c34)] 25 by rw [List.length_append]; rfl) (.head) (.consE (show row 65 2 A34 (es.length + 1) (c34) (cells fE (es ++ ([(((prs m).getD k (0, 0)).1, ((prs m).getD k (0, 0)).2)]))) = row 65 2 A34 ((es ++ ([(((prs m).getD k (0, 0)).1, ((prs m).getD k (0, 0)).2)])).length) (c34) (cells fE (es ++ ([(((prs m).getD k (0, 0)).1, ((prs m).getD k (0, 0)).2)]))) by rw [List.length_append]; rfl) (.head) (.cons (.tail .head) ((.drop .refl))))))))
    ·
      refine wl_nil ?_
      refine ce_then ?_
      refine cw_false rfl ?_
      refine cw_skip ?_
      refine ce_block ?_
      refine ce_then ?_
      refine cw_region ?_
      refine wl_v (ov_move rfl) rfl rfl rfl ?_
      refine wl_v (ov_add (r := ((k + 1 : Nat) : Int)) rfl rfl rfl (by omega)) rfl rfl rfl ?_
      refine wl_v (ov_assign rfl) rfl rfl rfl ?_
      refine wl_nil ?_
      exact fun ac_ w_ hs_ => hR0 (k + 1) A3 c3 es (q + 1) ⟨by omega, hk2, hk3.trans (by rw [take_succ (0, 0) (by omega)]; exact List.sublist_append_left _ _), by omega, by omega⟩ (by omega) ac_ w_ (hs_.weaken (.cons rfl (.cons rfl (.cons rfl (.cons rfl (.cons rfl (.cons rfl (.nil))))))) (.cons (.head) (.cons (.head) (.cons (.head) (.cons (.head) (.cons (.head) (.refl)))))))
  ·
    refine wl_nil ?_
    refine ce_then ?_
    refine cw_false rfl ?_
    refine cw_exit ?_
    refine ce_then_exit ?_
    refine ce_then_exit ?_
    refine ce_hit ?_
    refine ce_then ?_
    refine cw_seq ?_
    refine cw_seq ?_
    refine cw_region ?_
    refine wl_v (ov_move rfl) rfl rfl rfl ?_
    refine wl_r (or_call (fv := []) (vs := [elp (some ⟨g, 0, none⟩) (0), .int .i64 (4)]) (cs := []) en76 rfl rfl (call_o (.cons (.head) (.cons (.head) (.cons (.head) (.cons (.head) (.cons (.head) (.refl)))))) (fun w hw => pick_c w _ _ _ 4 g Ar nr cr bs q (Holds.keepF hAr ((.drop (.drop (.drop (.drop .refl)))))) (by first | rfl | assumption | (simp; done) | (simp; omega)) lAr ⟨hy.1, hy.2.1, by omega⟩ (by first | assumption | omega | (simp; omega)) hw))) rfl rfl (kt1p rfl (fun v_37 h_37 => ?_))
    refine wl_if (ov_eql rfl rfl) rfl rfl rfl (fun c38 => ?_) (fun c38 => ?_)
    ·
      refine wl_nil ?_
      refine ce_then ?_
      refine cw_true rfl ?_
      refine cw_seq ?_
      refine cw_region ?_
      refine wl_v (ov_loadAgg (vs := [.int .i64 (((m : Nat) : Int)), .slice A3 (es.length) (c3)]) tI25 (holds_blk (List.Mem.tail _ (List.Mem.tail _ (List.Mem.head _)))) rfl some_lit rfl rfl) rfl rfl rfl ?_
      refine wl_r (or_call (fv := []) (vs := [.agg #[.int .i64 (((m : Nat) : Int)), .slice A3 (es.length) (c3)]]) (cs := []) en121 rfl rfl (call_x2 (fun w hw => complementS_c w m A3 es.length c3 es ((holds_row (List.Mem.tail _ (List.Mem.tail _ (List.Mem.tail _ (List.Mem.head _))))) w hw) rfl hk2 (by omega) (by omega)))) rfl rfl (kt2p rfl (fun A2_40 c2_40 h_40 => ?_))
      refine wl_r0 (or_store_blk (vs := [.int .i64 (((m : Nat) : Int)), .slice A2_40 ((compl m es (prs m).length).length) (c2_40)]) (cs' := [.int .i64 (((m : Nat) : Int)), .slice A2_40 ((compl m es (prs m).length).length) (c2_40)]) (.tail (.tail (.tail (.tail (.tail .head))))) tI25 rfl rfl rfl rfl (Nat.le_of_ble_eq_true rfl) rfl) rfl rfl (kn0 ?_)
      refine wl_nil ?_
      refine ce_then ?_
      refine cw_ret ?_
      refine ce_then_ret ?_
      refine ce_results (v := .agg #[.int .i64 (((m : Nat) : Int)), .slice A2_40 ((compl m es (prs m).length).length) (c2_40)]) (res1 rfl (rv_c rfl tI25 rfl (List.Mem.head _))) (fun w' hw => ?_)
      exact ⟨A2_40, c2_40, compl m es (prs m).length, q + 1, ⟨⟨h_40, compl_sub _ _ _⟩, by omega, by omega⟩, rfl, ((.cons (.tail .head) (.cons (.tail .head) ((.drop (.drop (.drop (.drop .refl)))))) : Keep _ _).ss hw)⟩
    ·
      refine wl_nil ?_
      refine ce_then ?_
      refine cw_false rfl ?_
      refine cw_skip ?_
      refine ce_then ?_
      refine cw_seq ?_
      refine cw_region ?_
      refine wl_v (ov_loadAgg (vs := [.int .i64 (((m : Nat) : Int)), .slice A3 (es.length) (c3)]) tI25 (holds_blk (List.Mem.tail _ (List.Mem.tail _ (List.Mem.head _)))) rfl some_lit rfl rfl) rfl rfl rfl ?_
      refine wl_r0 (or_store_blk (vs := [.int .i64 (((m : Nat) : Int)), .slice A3 (es.length) (c3)]) (cs' := [.int .i64 (((m : Nat) : Int)), .slice A3 (es.length) (c3)]) (.tail (.tail (.tail (.tail .head)))) tI25 rfl rfl rfl rfl (Nat.le_of_ble_eq_true rfl) rfl) rfl rfl (kn0 ?_)
      refine wl_nil ?_
      refine ce_then ?_
      refine cw_ret ?_
      refine ce_results (v := .agg #[.int .i64 (((m : Nat) : Int)), .slice A3 (es.length) (c3)]) (res1 rfl (rv_c rfl tI25 rfl (List.Mem.head _))) (fun w' hw => ?_)
      exact ⟨A3, c3, es, q + 1, ⟨⟨hk2, hk3.trans (List.take_sublist _ _)⟩, by omega, by omega⟩, rfl, ((.cons (.tail (.tail (.tail (.tail .head)))) (.cons (.tail .head) ((.drop (.drop (.drop .refl))))) : Keep _ _).ss hw)⟩
set_option maxRecDepth 100000 in
theorem goodGraph_c (w w0 : World) (Bd : Nat) (F : List Ent) (g : Nat) (Ar : Option Addr) (nr : Nat) (cr : Nat) (bs : List Nat) (p : Nat) (hAr : Holds (SS w0 Bd F) Ar (cells fY bs)) (eAr : bs.length = nr) (lAr : nr ≤ cr) (hy : nr ≤ 2000 ∧ (∀ x ∈ bs, x < 256) ∧ p ≤ 85000) (hss : SS w0 Bd ((blk g [.slice Ar (nr) (cr), .int .i64 (((p : Nat) : Int))] 100) :: F) w) : Calls Try.prog 75 #[elp (some ⟨g, 0, none⟩) (0)] w (Ret fun rv w' => ∃ m A2 c2 es q, (m ≤ 7 ∧ (es.length ≤ c2 ∧ es.Sublist (prs m)) ∧ p ≤ q ∧ q ≤ p + 210) ∧ rv = .agg #[.int .i64 (((m : Nat) : Int)), .slice A2 (es.length) (c2)] ∧ SS w0 Bd ((row 65 2 A2 (es.length) (c2) (cells fE es)) :: (blk g [.slice Ar (nr) (cr), .int .i64 (((q : Nat) : Int))] 100) :: F) w') := by
  refine fn_enter (args := [elp (some ⟨g, 0, none⟩) (0)]) Try.func75 rfl Try.ntmps75 rfl hss ?_
  refine cw_seq ?_
  refine cw_region ?_
  refine wl_r (or_alloc tI25 rfl) rfl rfl (kt1 rfl (fun g2 => ?_))
  refine wl_nil ?_
  refine ce_then ?_
  refine cw_seq ?_
  refine cw_region ?_
  refine wl_v (ov_move rfl) rfl rfl rfl ?_
  refine wl_v (ov_move rfl) rfl rfl rfl ?_
  refine wl_r (or_buildSlice (e := 3) (size := 1) (is := [0, 1, 2, 3, 4, 5, 6, 7, 8]) (vs := [.int .i64 (5), .int .i64 (4), .int .i64 (6), .int .i64 (3), .int .i64 (5), .int .i64 (2), .int .i64 (7), .int .i64 (1), .int .i64 (0)]) (cs := cells fI ([5, 4, 6, 3, 5, 2, 7, 1, 0])) rfl rfl rfl (by decide) (fun _ => by kernel_rfl)) rfl rfl (kt1 rfl (fun g5 => ?_))
  refine wl_r (or_call (fv := []) (vs := [elp (some ⟨g, 0, none⟩) (0), .slice (some ⟨g5, 0, none⟩) (9) (9)]) (cs := []) en77 rfl rfl (call_o (.cons (.tail (.tail .head)) (.cons (.head) (.cons (.head) (.refl)))) (fun w hw => one_c w _ _ _ (some ⟨g5, 0, none⟩) 9 9 ([5, 4, 6, 3, 5, 2, 7, 1, 0]) g Ar nr cr bs p (holds_row (List.Mem.head _)) (by first | rfl | assumption | (simp; done) | (simp; omega)) (Nat.le_refl _) (Holds.keepF hAr ((.drop (.drop .refl)))) (by first | rfl | assumption | (simp; done) | (simp; omega)) lAr ⟨hy.1, hy.2.1, by omega⟩ (by first | assumption | omega | (simp; omega)) hw))) rfl rfl (kt1p rfl (fun v_6 h_6 => ?_))
  have h6 : 0 ≤ v_6 ∧ v_6 ≤ 7 := (by simp at h_6; omega)
  obtain ⟨m, rfl⟩ := Int.eq_ofNat_of_zero_le (show 0 ≤ v_6 from h6.1)
  refine wl_r (or_call (fv := []) (vs := [elp (some ⟨g, 0, none⟩) (0), .int .i64 (((m : Nat) : Int))]) (cs := []) en104 rfl rfl (call_o (.cons (.head) (.cons (.head) (.cons (.head) (.refl)))) (fun w hw => aGraph_c w _ _ _ m g Ar nr cr bs (p + 1) (Holds.keepF hAr ((.drop (.drop .refl)))) (by first | rfl | assumption | (simp; done) | (simp; omega)) lAr ⟨hy.1, hy.2.1, by omega⟩ (by first | assumption | omega | (simp; omega)) hw))) rfl rfl (kt4p rfl (fun A2_7 c2_7 es_7 q_7 h_7 => ?_))
  refine wl_r0 (or_store_blk (vs := [.int .i64 (((m : Nat) : Int)), .slice A2_7 (es_7.length) (c2_7)]) (cs' := [.int .i64 (((m : Nat) : Int)), .slice A2_7 (es_7.length) (c2_7)]) (.tail (.tail (.tail .head))) tI25 rfl rfl rfl rfl (Nat.le_of_ble_eq_true rfl) rfl) rfl rfl (kn0 ?_)
  refine wl_nil ?_
  refine ce_then ?_
  refine cw_ret ?_
  refine ce_results (v := .agg #[.int .i64 (((m : Nat) : Int)), .slice A2_7 (es_7.length) (c2_7)]) (res1 rfl (rv_c rfl tI25 rfl (List.Mem.head _))) (fun w' hw => ?_)
  exact ⟨m, A2_7, c2_7, es_7, q_7, ⟨by omega, h_7.1, by omega, by omega⟩, rfl, ((.cons (.tail .head) (.cons (.tail .head) ((.drop (.drop .refl)))) : Keep _ _).ss hw)⟩
end Go.Proofs.Ytkkllkkjdbpjpaa.W11
