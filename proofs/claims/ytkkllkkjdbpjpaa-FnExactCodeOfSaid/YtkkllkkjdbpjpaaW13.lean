/- Walks of functions of the given program: each returns what its Lean function says and leaves the memory that was there as it was. Conditions: those of each theorem. -/
import Derived.Test.YtkkllkkjdbpjpaaSm
import Derived.Test.YtkkllkkjdbpjpaaProg
import Derived.Test.YtkkllkkjdbpjpaaPl
import Derived.Test.YtkkllkkjdbpjpaaPo
import Derived.Test.YtkkllkkjdbpjpaaPd
import Derived.Test.YtkkllkkjdbpjpaaPe
import Derived.Test.YtkkllkkjdbpjpaaPh
import Derived.Test.YtkkllkkjdbpjpaaPm
import Derived.Test.YtkkllkkjdbpjpaaPc
import Derived.Test.YtkkllkkjdbpjpaaPs
import Derived.Test.YtkkllkkjdbpjpaaPt
import Derived.Test.YtkkllkkjdbpjpaaPu
import Derived.Test.YtkkllkkjdbpjpaaPv
import Derived.Test.YtkkllkkjdbpjpaaPw
import Derived.Test.YtkkllkkjdbpjpaaPx
import Derived.Test.YtkkllkkjdbpjpaaPy
import Derived.Test.YtkkllkkjdbpjpaaPz
import Derived.Test.YtkkllkkjdbpjpaaPr
import Derived.Test.YtkkllkkjdbpjpaaPa
import Derived.Test.YtkkllkkjdbpjpaaPn
import Derived.Test.YtkkllkkjdbpjpaaPj
import Derived.Test.YtkkllkkjdbpjpaaPq
import Derived.Test.YtkkllkkjdbpjpaaSp
import Derived.Test.YtkkllkkjdbpjpaaPp
import Derived.Test.YtkkllkkjdbpjpaaSs
import Derived.Test.YtkkllkkjdbpjpaaSr
import Derived.Test.YtkkllkkjdbpjpaaPb
import Derived.Test.YtkkllkkjdbpjpaaSe
import Derived.Test.YtkkllkkjdbpjpaaSf
import Derived.Test.YtkkllkkjdbpjpaaT
import Derived.Test.YtkkllkkjdbpjpaaW2
import Derived.KernelRfl
namespace Go.Proofs.Ytkkllkkjdbpjpaa.W13
open Go.Sx Go.RowKit Go.Proofs.Ytkkllkkjdbpjpaa.T Go.Proofs.Ytkkllkkjdbpjpaa.W2
open Go.Plain
set_option linter.unusedVariables false
set_option maxRecDepth 100000 in
theorem deleteFuncI_c (w : World) (w0 : World) (Bd : Nat) (F : List Ent) (A : Option Addr) (n : Nat) (c : Nat) (cv : Nat) (xs : List (Int)) (Fc : FuncId) (cs : List Value) (p : Int → Bool) (eA : xs.length = n) (lA : n ≤ cv) (hs : n ≤ 1000) (hen : Enters Try.prog Fc) (hf : ∀ x ∈ xs, ∀ ys' w', SS w0 Bd ((row 3 1 A n c (cells fI ys')) :: F) w' → Calls Try.prog Fc ([] ++ [Value.int .i64 x] ++ cs).toArray w' (Ret fun v w'' => v = .bool (p x) ∧ New w' w'' [])) (hss : SS w0 Bd ((row 3 1 A (n) (c) (cells fI xs)) :: F) w) : Calls Try.prog 72 #[.slice A (n) (cv), .func (.func Fc) #[] cs.toArray] w (Ret fun rv w' => rv = .slice A ((xs.filter (fun x => !p x)).length) (cv) ∧ SS w0 Bd ((row 3 1 A ((xs.filter (fun x => !p x)).length) (c) (cells fI (xs.filter (fun x => !p x)))) :: F) w') := by
  subst eA
  have hcs := idxF_cases 0 p xs
  refine fn_enter (args := [.slice A (xs.length) (cv), .func (.func Fc) #[] cs.toArray]) Try.func72 rfl Try.ntmps72 rfl hss ?_
  refine cw_seq ?_
  refine cw_region ?_
  refine wl_v (ov_assign rfl) rfl rfl rfl ?_
  refine wl_nil ?_
  refine ce_then ?_
  refine cw_seq ?_
  refine cw_region ?_
  refine wl_v (ov_move rfl) rfl rfl rfl ?_
  refine wl_v (ov_move rfl) rfl rfl rfl ?_
  refine wl_r (or_call (fv := []) (vs := [.slice A (xs.length) (cv), .func (.func Fc) #[] cs.toArray]) (cs := []) en103 rfl rfl (call_v (fun w hw => indexFunc_c w A xs.length cv xs Fc cs p ((holds_row (List.Mem.head _)) w hw) rfl lA (by first | assumption | omega | (simp; omega)) (by first | assumption | omega | (simp; omega)) (fun x hx w' hb => hf x hx xs w' (hw.later hb))))) rfl rfl (kt0 rfl ?_)
  refine wl_v (ov_assign rfl) rfl rfl rfl ?_
  refine wl_nil ?_
  refine ce_then ?_
  refine cw_seq ?_
  refine cw_seq ?_
  refine cw_region ?_
  refine wl_v (ov_move rfl) rfl rfl rfl ?_
  refine wl_if (ov_eql rfl rfl) rfl rfl rfl (fun c12 => ?_) (fun c12 => ?_)
  ·
    refine wl_nil ?_
    refine ce_then ?_
    refine cw_true rfl ?_
    refine cw_seq ?_
    refine cw_region ?_
    refine wl_v (ov_move rfl) rfl rfl rfl ?_
    refine wl_v (ov_assign rfl) rfl rfl rfl ?_
    refine wl_nil ?_
    refine ce_then ?_
    refine cw_ret ?_
    refine ce_then_ret ?_
    refine ce_results (v := .slice A (xs.length) (cv)) (res1 rfl (rv_t rfl)) (fun w' hw => ?_)
    exact ⟨(by rw [filter_none (hcs.elim (fun h => h.2) (fun ⟨k, hk, _⟩ => by omega))]), ((.consE (show row 3 1 A (xs.length) (c) (cells fI xs) = row 3 1 A ((xs.filter (fun x => !p x)).length) (c) (cells fI (xs.filter (fun x => !p x))) by rw [filter_none (hcs.elim (fun h => h.2) (fun ⟨k, hk, _⟩ => by omega))]) (.head) (.refl) : Keep _ _).ss hw)⟩
  ·
    refine wl_nil ?_
    refine ce_then ?_
    refine cw_false rfl ?_
    refine cw_skip ?_
    refine ce_then ?_
    refine cw_seq ?_
    refine cw_seq ?_
    obtain ⟨k0, hk0, hkl, hkp, hkn⟩ := hcs.resolve_left (fun h => c12 h.1)
    refine ct_keep (L' := [(0, .slice A (xs.length) (cv)), (1, .func (.func Fc) #[] cs.toArray), (4, .slice none (0) (0)), (5, .int .i64 (((k0 : Nat) : Int))), (8, .slice A (xs.length) (cv)), (9, .func (.func Fc) #[] cs.toArray), (10, .int .i64 (idxF p xs)), (11, .int .i64 (idxF p xs)), (12, .bool false)]) (.cons rfl (.cons rfl (.cons rfl (.cons (congrArg (fun z => some (Value.int .i64 z)) (show (idxF p xs) = ((k0 : Nat) : Int) from hk0)) (.cons rfl (.cons rfl (.cons rfl (.cons rfl (.cons rfl (.nil)))))))))) .refl ?_
    refine cw_region ?_
    refine wl_v (ov_move rfl) rfl rfl rfl ?_
    refine wl_v (ov_add (r := ((k0 + 1 : Nat) : Int)) rfl rfl rfl (by omega)) rfl rfl rfl ?_
    refine wl_v (ov_assign rfl) rfl rfl rfl ?_
    refine wl_nil ?_
    refine ce_then ?_
    refine cw_block ?_
    refine cw_loop3 (fun (j : Nat) (i : Nat) (ys : List (Int)) => [(0, .slice A (xs.length) (cv)), (1, .func (.func Fc) #[] cs.toArray), (4, .slice none (0) (0)), (5, .int .i64 (((i : Nat) : Int))), (6, .int .i64 (((j : Nat) : Int)))]) (fun (j : Nat) (i : Nat) (ys : List (Int)) => (row 3 1 A (xs.length) (c) (cells fI ys)) :: F) (fun (j : Nat) (i : Nat) (ys : List (Int)) => j ≤ xs.length ∧ i < j ∧ ys.length = xs.length ∧ ys.take i = (xs.take j).filter (fun x => !p x) ∧ ys.drop j = xs.drop j) (fun (j : Nat) (i : Nat) (ys : List (Int)) => xs.length - j) (k0 + 1) k0 xs ⟨by omega, by omega, rfl, del_init 0 hkl (fun x hx => by rw [hkn x hx]; rfl) (by rw [hkp]; rfl), rfl⟩ (.cons rfl (.cons rfl (.cons rfl (.cons rfl (.cons rfl (.nil)))))) (.cons (.head) (.refl)) ?_
    intro R0 j i ys hk hR0
    obtain ⟨hj1, hj2, hyl, hyt, hyd⟩ := hk
    refine cw_seq ?_
    refine cw_seq ?_
    refine cw_region ?_
    refine wl_v (ov_move rfl) rfl rfl rfl ?_
    refine wl_v (ov_move rfl) rfl rfl rfl ?_
    refine wl_v (ov_len (sliceI_spec sI38) rfl) rfl rfl rfl ?_
    refine wl_if (ov_lss rfl rfl) rfl rfl rfl (fun c19 => ?_) (fun c19 => ?_)
    ·
      refine wl_nil ?_
      refine ce_then ?_
      refine cw_true rfl ?_
      refine cw_skip ?_
      refine ce_then ?_
      refine cw_seq ?_
      refine cw_block ?_
      refine cw_seq ?_
      refine cw_region ?_
      refine wl_v (ov_move rfl) rfl rfl rfl ?_
      refine wl_v (ov_move rfl) rfl rfl rfl ?_
      refine wl_v (ov_index (k := j) (c := cv) sI38 tI3 rfl rfl (some_holds (q := j * 1) (holds_row (List.Mem.head _)) (by rw [cells_length fI_len]; have hlt : j < ys.length := (by omega); omega)) (show j < xs.length from (by omega))) rfl rfl rfl ?_
      have hxm : ys.getD j 0 ∈ xs := by rw [getD_of_drop 0 (by omega) hyd]; exact getD_mem _ (by omega)
      refine wl_v (ov_load tI3 (holds_row (List.Mem.head _)) rfl (get_fI (show j < ys.length from (by omega)))) rfl rfl rfl ?_
      refine wl_v (ov_assign rfl) rfl rfl rfl ?_
      refine wl_nil ?_
      refine ce_then ?_
      refine cw_seq ?_
      refine cw_region ?_
      refine wl_v (ov_move rfl) rfl rfl rfl ?_
      refine wl_v (ov_move rfl) rfl rfl rfl ?_
      refine wl_r (or_call (fv := []) (vs := [.int .i64 ((ys.getD j 0))]) (cs := cs) hen rfl rfl (call_v (fun w hw => hf _ hxm _ w ((.cons (.head) (.refl) : Keep _ _).ss hw)))) rfl rfl (kt_ifb rfl (fun c28 => ?_) (fun c28 => ?_))
      ·
        refine wl_v (ov_not rfl) rfl rfl rfl ?_
        refine wl_nil ?_
        refine ce_then ?_
        refine cw_false rfl ?_
        refine cw_skip ?_
        refine ce_block ?_
        refine ce_then ?_
        refine cw_region ?_
        refine wl_v (ov_move rfl) rfl rfl rfl ?_
        refine wl_v (ov_add (r := ((j + 1 : Nat) : Int)) rfl rfl rfl (by omega)) rfl rfl rfl ?_
        refine wl_v (ov_assign rfl) rfl rfl rfl ?_
        refine wl_nil ?_
        exact fun ac_ w_ hs_ => hR0 (j + 1) i ys (by have hd := del_skip (q := fun x => !p x) 0 (by omega) hyt hyd (by rw [c28]; rfl); exact ⟨by omega, by omega, hyl, hd.1, hd.2⟩) (by omega) ac_ w_ (hs_.weaken (.cons rfl (.cons rfl (.cons rfl (.cons rfl (.cons rfl (.nil)))))) (.cons (.head) (.refl)))
      ·
        refine wl_v (ov_not rfl) rfl rfl rfl ?_
        refine wl_nil ?_
        refine ce_then ?_
        refine cw_true rfl ?_
        refine cw_seq ?_
        refine cw_region ?_
        refine wl_v (ov_move rfl) rfl rfl rfl ?_
        refine wl_v (ov_move rfl) rfl rfl rfl ?_
        refine wl_v (ov_move rfl) rfl rfl rfl ?_
        refine wl_v (ov_index (k := i) (c := cv) sI38 tI3 rfl rfl (some_holds (q := i * 1) (holds_row (List.Mem.head _)) (by rw [cells_length fI_len]; have hlt : i < ys.length := (by omega); omega)) (show i < xs.length from (by omega))) rfl rfl rfl ?_
        refine wl_r0 (or_store_row (vs := [.int .i64 ((ys.getD j 0))]) (cs' := cells fI (ys.set i (ys.getD j 0))) (.head) tI3 rfl rfl rfl rfl (by rw [cells_length fI_len]; have hlt := (show i < ys.length from (by omega)); simp only [List.length_cons, List.length_nil]; omega) (by simp) (cells_splice fI_len (show i < ys.length from (by omega)) (ys.getD j 0))) rfl rfl (kn0 ?_)
        refine wl_nil ?_
        refine ce_then ?_
        refine cw_region ?_
        refine wl_v (ov_move rfl) rfl rfl rfl ?_
        refine wl_v (ov_add (r := ((i + 1 : Nat) : Int)) rfl rfl rfl (by omega)) rfl rfl rfl ?_
        refine wl_v (ov_assign rfl) rfl rfl rfl ?_
        refine wl_nil ?_
        refine ce_block ?_
        refine ce_then ?_
        refine cw_region ?_
        refine wl_v (ov_move rfl) rfl rfl rfl ?_
        refine wl_v (ov_add (r := ((j + 1 : Nat) : Int)) rfl rfl rfl (by omega)) rfl rfl rfl ?_
        refine wl_v (ov_assign rfl) rfl rfl rfl ?_
        refine wl_nil ?_
        exact fun ac_ w_ hs_ => hR0 (j + 1) (i + 1) (ys.set i (ys.getD j 0)) (by have hd := del_keep (q := fun x => !p x) 0 (by omega) hyl hj2 hyt hyd (by rw [c28]; rfl); exact ⟨by omega, by omega, by rw [List.length_set]; exact hyl, hd.1, hd.2⟩) (by omega) ac_ w_ (hs_.weaken (.cons rfl (.cons rfl (.cons rfl (.cons rfl (.cons rfl (.nil)))))) (.cons (.head) (.refl)))
    ·
      refine wl_nil ?_
      refine ce_then ?_
      refine cw_false rfl ?_
      refine cw_exit ?_
      refine ce_then_exit ?_
      refine ce_then_exit ?_
      refine ce_hit ?_
      refine ce_then ?_
      refine cw_seq ?_
      refine ct_fact (some_holds (q := 0) (holds_row (List.Mem.head _)) (by rw [cells_length fI_len]; omega)) (fun hso => ?_)
      refine cw_region ?_
      refine wl_v (ov_move rfl) rfl rfl rfl ?_
      refine wl_v (ov_move rfl) rfl rfl rfl ?_
      refine wl_v (ov_slice_l (l := i) sI38 tI3 rfl rfl (by omega)) rfl rfl rfl ?_
      refine wl_r0 (or_clear (f := fI) (z0 := 0) (i := i) (k := xs.length - i) (c := cv) sI38 tI3 rfl fI_len fI_one rfl (.head) (by omega) (by omega) hso ((cells_splices fI_len _ _ _).trans (congrArg (cells fI) (show _ = ys.take i ++ List.replicate (xs.length - i) 0 from (clear_tail 0 hyl (by omega)))))) rfl rfl (kn0 ?_)
      refine wl_nil ?_
      refine ce_then ?_
      refine cw_seq ?_
      refine cw_region ?_
      refine wl_v (ov_move rfl) rfl rfl rfl ?_
      refine wl_v (ov_move rfl) rfl rfl rfl ?_
      refine wl_v (ov_slice_h (h := i) sI38 tI3 rfl rfl (by omega)) rfl rfl rfl ?_
      refine wl_v (ov_assign rfl) rfl rfl rfl ?_
      refine wl_nil ?_
      refine ce_then ?_
      refine cw_ret ?_
      refine ce_results (v := .slice A (i) (cv)) (res1 rfl (rv_t rfl)) (fun w' hw => ?_)
      have hfe : xs.filter (fun x => !p x) = ys.take i := (by have h2 := hyt; rw [List.take_of_length_le (show xs.length ≤ j from by omega)] at h2; exact h2.symm)
      have hfl : (xs.filter (fun x => !p x)).length = i := by rw [hfe, List.length_take]; omega
      exact ⟨by rw [hfl], ((Keep.conv (e := row 3 1 A (xs.length) (c) (cells fI (ys.take i ++ List.replicate (xs.length - i) 0))) (e' := row 3 1 A ((xs.filter (fun x => !p x)).length) (c) (cells fI (xs.filter (fun x => !p x)))) (fun w h => by have h2 := row_first (k := i) fI_len (by omega) h; rw [take_cleared 0 hyl (by omega), ← hfe] at h2; rw [hfl]; exact h2) (fun _ h => h) .head .refl : Keep _ _).ss hw)⟩
end Go.Proofs.Ytkkllkkjdbpjpaa.W13
